/-
  Part of the proof of a statement about the given program: an abstract machine over its code, the simulation, its functions' equations, what they compute.
-/
import Derived.Test.YtiegkempfolgcaaGreatDoorMg10
import Derived.Test.YtiegkempfolgcaaGreatDoorMg11
import Derived.Test.YtiegkempfolgcaaGreatDoorMg4
import Derived.Test.YtiegkempfolgcaaGreatDoorMg5
import Derived.Test.YtiegkempfolgcaaGreatDoorMg8
import Derived.Test.YtiegkempfolgcaaGreatDoorMg9
set_option linter.unusedVariables false
set_option linter.unusedSimpArgs false
set_option linter.unusedSectionVars false
set_option maxRecDepth 100000
noncomputable section
namespace Go.Proofs.YtiegkempfolgcaaGreatDoor
section
open Go AM
namespace Ed
structure Edg where
 fr:Nat
 to:Nat
 w:Int
 hf:fr<64
 ht:to<64
instance:Inhabited Edg:=⟨⟨0,0,0,by omega,by omega⟩⟩
def vEdg (e:Edg):V:= .agg 111 [.int .i64 (e.fr:Int),.int .i64 (e.to:Int),.int .i64 e.w]
def cmpE (x y:Edg):Int:=if x.fr=y.fr then(x.to:Int)-y.to else(x.fr:Int)-y.fr
def ltE (x y:Edg):Bool:=decide (cmpE x y<0)
@[go_sem] theorem ASE (x:Edg):(vEdg x).pl=true:=(rfl)
@[go_sem] theorem AQp (x:Edg):BI 111 (vEdg x)=true:=Ji ..
theorem compare_am (x y:Edg):Cl 91 [vEdg x,vEdg y] []=some (.int .i64 (cmpE x y),[]):=by
 have h1:=x.hf;have h2:=x.ht;have h3:=y.hf;have h4:=y.ht
 rw[ANL,cmpE]
 by_cases h:x.fr=y.fr
 ·rw[if_pos h]
  simp only[vEdg]
  simp(disch:=first|assumption|omega|(with_reducible rfl)|(simp only[go_sem];done)|(simp only[go_sem];omega)|fail) only[↓reduceIte,↓AL,Nat.reduceAdd,go_sem,h]
 ·rw[if_neg h]
  have:¬(x.fr:Int)=(y.fr:Int):=by omega
  simp only[vEdg]
  simp(disch:=first|assumption|omega|(with_reducible rfl)|(simp only[go_sem];done)|(simp only[go_sem];omega)|fail) only[↓reduceIte,↓AL,Nat.reduceAdd,go_sem]
theorem ltE_iff (x y:Edg):ltE x y=true↔(x.fr<y.fr∨x.fr=y.fr∧x.to<y.to):=by
 rw[ltE,decide_eq_true_eq,cmpE]
 by_cases h:x.fr=y.fr
 ·rw[if_pos h];constructor<;>intro k<;>omega
 ·rw[if_neg h];constructor<;>intro k<;>omega
theorem ltE_iff' (x y:Edg):ltE x y=false↔¬(x.fr<y.fr∨x.fr=y.fr∧x.to<y.to):=by
 rw[←ltE_iff,Bool.not_eq_true]
abbrev cm:V:= .clo 91 []
def rowM (d:Array Edg):V:= .row 112 (d.toList.map vEdg)
def winM (id n:Nat):V:= .win id [] 0 n 112
def Oc (e:Edg):Int×Int×Int:=(e.fr,e.to,e.w)
theorem AHF {α β:Type} (f:α→β) {r s:List β} (h:r.Perm s):∀l:List α,l.map f=s→∃l':List α,l'.Perm l∧l'.map f=r:=by
 induction h with
 |nil=>intro l hl;exact⟨l,List.Perm.refl _,hl⟩
 |cons x h ih=>
  intro l hl
  match l,hl with
  |y::l,hl=>
   simp only[List.map_cons,List.cons.injEq]at hl
   obtain⟨l',h1,h2⟩:=ih l hl.2
   exact⟨y::l',h1.cons y,by rw[List.map_cons,hl.1,h2]⟩
 |swap x y r=>
  intro l hl
  match l,hl with
  |a::b::l,hl=>
   simp only[List.map_cons,List.cons.injEq]at hl
   exact⟨b::a::l,List.Perm.swap a b l,by simp[hl]⟩
 |trans h1 h2 ih1 ih2=>
  intro l hl
  obtain⟨l1,a1,a2⟩:=ih2 l hl
  obtain⟨l2,b1,b2⟩:=ih1 l1 a2
  exact⟨l2,b1.trans a1,b2⟩
theorem Vw (l:List Edg):∃l':List Edg,l'.Perm l∧l'.map Oc=EX 1 (l.map Oc):=AHF Oc (JG 1 _) l rfl
def srtL (l:List Edg):List Edg:=Classical.choose (Vw l)
theorem srtL_perm (l:List Edg):(srtL l).Perm l:=(Classical.choose_spec (Vw l)).1
theorem YM (l:List Edg):(srtL l).map Oc=EX 1 (l.map Oc):=(Classical.choose_spec (Vw l)).2
theorem Zw (x:Edg):Oo 1 (Oc x)=true:=by
 have:=x.hf;have:=x.ht
 refine Bool.or_eq_true_iff.2 (Or.inr ?_)
 simp only[Bool.and_eq_true,Oc]
 refine⟨⟨⟨?_,?_⟩,?_⟩,?_⟩<;>exact decide_eq_true (by omega)
theorem Zx (x y:Edg):decide (SE 1 (Oc x) (Oc y)<0)=ltE x y:=by
 rw[Bool.eq_iff_iff,decide_eq_true_eq,ltE_iff]
 unfold SE cl3
 rw[if_pos (Zw x),if_pos (Zw y),AL3 (by rfl)]
 simp only[Oc];omega
theorem srtL_sorted (l:List Edg):(srtL l).Pairwise (fun a b=>ltE b a=false):=by
 have h:=(YL 1 (l.map Oc)).2
 rw[←YM]at h
 rw[List.pairwise_iff_getElem]
 intro i j hi hj hij
 have hlen:=(srtL_perm l).length_eq
 have:=h i j (Nat.zero_le _) hij (by simp;omega)
 simp only[List.getElem!_toArray,List.getElem!_eq_getElem?_getD,List.getElem?_map,List.getElem?_eq_getElem hi,List.getElem?_eq_getElem hj,Option.map_some,Option.getD_some]at this
 rw[Zx]at this
 exact this
theorem AHG (u:TypeId):∀l:List Edg,(l.map vEdg).all (i3t 111)=true
 |[]=>rfl
 |x::l=>by rw[List.map_cons,List.all_cons,AHG u l];rfl
theorem AL4:∀l:List Edg,(l.map vEdg).all (fun x=>Oo 1 (t3 x))=true
 |[]=>rfl
 |x::l=>by rw[List.map_cons,List.all_cons,AL4 l,Bool.and_true];exact Zw x
theorem AQq (l:List Edg):(l.map vEdg).map t3=l.map Oc:=by rw[List.map_map];rfl
theorem AQr (l:List Edg):(l.map Oc).map (ZE 111)=l.map vEdg:=by rw[List.map_map];rfl
theorem sort_aps {h:List V} {id:Nat} {l:List Edg} (hh:h[id]?=some (rowM l.toArray)) (hl:l.length≤1000000):
 aps 1000091 112 [winM id l.length,cm] h=some (.tup [],h.set id (rowM (srtL l).toArray)):=by
 have hd:1000091/1000000=1:=rfl
 have tg:(l.map vEdg).all (i3t (Uz (l.map vEdg)))=true:=by
  cases l with
  |nil=>rfl
  |cons x l=>exact AHG 0 (x::l)
 have mk:((EX 1 (l.map Oc)).map (ZE (Uz (l.map vEdg))))=(srtL l).map vEdg:=by
  rw[←YM]
  cases l with
  |nil=>rw[List.perm_nil.1 (srtL_perm [])];rfl
  |cons x l=>exact AQr _
 simp only[aps,winM,rowM]at hh⊢
 have e1:Nat.beq l.length (l.map vEdg).length=true:=by simp
 have e2:Nat.ble (l.map vEdg).length Dh=true:=by simp[Dh,Nat.ble_eq];omega
 simp only[hh,hd]
 rw[if_pos (by simp only[tg,AL4,e1,e2];rfl),AQq,mk]
end Ed
end
section
open Go AM
structure E0 where
 fr:Int
 to:Int
 w:Int
 deriving DecidableEq
abbrev tE:TypeId:=111
def Ql (e:E0):V:= .agg tE [.int .i64 e.fr,.int .i64 e.to,.int .i64 e.w]
@[go_sem] theorem ATP (x:E0):(Ql x).pl=true:=(rfl)
@[go_sem] theorem AKQ (l:List E0):G5 (l.map Ql)=true:=Dc (fun _=>rfl) l
@[go_sem] theorem AKR (x:E0):BI tE (Ql x)=true:=Ji ..
theorem ACr {l:List E0} {i:Nat} (h:i<l.length):(l.map Ql)[i]?=some (Ql l[i]):=by simp[h]
structure Grf where
 n:Int
 es:List E0
abbrev vG (f:Fl) (g:Grf):V:= .agg 23 [.int .i64 g.n,.lst 112 f (g.es.map Ql)]
def F6 (n:Int) (e:E0):Bool:=decide (e.fr<0)||decide (n≤e.fr)||decide (e.to<0)||decide (n≤e.to)||decide (e.w<0)||decide (1048576<e.w)
abbrev rG:V:= .ref 0 [] 24
theorem AOH (n:Int) (l:V) (e:E0):Cl 87 [Ql e,rG] [.agg 23 [.int .i64 n,l]]=some (.bool (F6 n e),[.agg 23 [.int .i64 n,l]]):=by
 rw[ANH]
 simp only[Ql]
 repeat' first|rfl|refine Qi (fun _=> ?_) (fun _=> ?_)|refine Qj (fun _=> ?_) (fun _=> ?_)|simp(disch:=first|assumption|omega|(with_reducible rfl)|(simp only[go_sem];done)|(simp only[go_sem];omega)|fail) only[↓reduceIte,↓AL,Nat.reduceAdd,go_sem]
 all_goals (simp_all [F6]<;>omega)
abbrev AKS:V:= .clo 87 [rG]
theorem AQs {R:Type} (n:Int) (l:V) (e:E0) (k:V→List V→Option R):CG P DZ W AKS [Ql e] [.agg 23 [.int .i64 n,l]] k=k (.bool (F6 n e)) [.agg 23 [.int .i64 n,l]]:=
 MJ k (by kernel_rfl) (by kernel_rfl) (AOH n l e)
def MK {α:Type} (p:α→Bool):Nat→List α→Int
 |_,[]=> -1
 |i,x::l=>if p x=true then(i:Int)else MK p (i+1) l
theorem YN {α:Type} (p:α→Bool):∀(l:List α) (i:Nat),0≤MK p i l↔l.any p=true
 |[],i=>by simp[MK]
 |x::l,i=>by
  rw[MK,List.any_cons]
  by_cases h:p x=true
  ·rw[if_pos h,h];simp
  ·rw[if_neg h,YN p l (i+1)];simp[h]
theorem ACs {α:Type} (p:α→Bool) (l:List α) (i:Nat):decide (0≤MK p i l)=l.any p:=by
 rw[Bool.eq_iff_iff,decide_eq_true_eq];exact YN p l i
theorem AKT (n:Int) (L:V) (es:List E0) (hl:es.length<1000000) (f:Fl):∀(m i:Nat),i+m=es.length→
 Nv (.lst 112 f (es.map Ql)) AKS (.int .i64 (es.length:Int)) (.int .i64 (i:Int)) 1 [.agg 23 [.int .i64 n,L]]=
  some (.int .i64 (MK (F6 n) i (es.drop i)),[.agg 23 [.int .i64 n,L]]):=by
 intro m
 induction m with
 |zero=>
  intro i hi
  rw[List.drop_eq_nil_of_le (by omega),O6]
  simp(disch:=first|assumption|omega|(with_reducible rfl)|(simp only[go_sem];done)|(simp only[go_sem];omega)|fail) only[↓reduceIte,↓AL,Nat.reduceAdd,go_sem,MK]
 |succ m ih=>
  intro i hi
  have h:i<es.length:=by omega
  have:=ih (i+1) (by omega)
  rw[List.drop_eq_getElem_cons h,MK,O6]
  by_cases ho:F6 n es[i]=true
  ·rw[if_pos ho]
   simp(disch:=first|assumption|omega|(with_reducible rfl)|(simp only[go_sem];done)|(simp only[go_sem];omega)|fail) only[↓reduceIte,↓AL,Nat.reduceAdd,go_sem,ACr h,AQs,ho]
  ·rw[if_neg ho,←this]
   simp(disch:=first|assumption|omega|(with_reducible rfl)|(simp only[go_sem];done)|(simp only[go_sem];omega)|fail) only[↓reduceIte,↓AL,Nat.reduceAdd,go_sem,ACr h,AQs,ho]
theorem AKU (n:Int) (L:V) {es:List E0} (hl:es.length<1000000) (f:Fl):Cl 88 [.lst 112 f (es.map Ql),AKS] [.agg 23 [.int .i64 n,L]]=some (.bool (es.any (F6 n)),[.agg 23 [.int .i64 n,L]]):=by
 have h:=fun f=>AKT n L es hl f es.length 0 (by omega)
 simp only[c0,List.drop_zero]at h
 have ix:∀f,Cl 112 [.lst 112 f (es.map Ql),AKS] [.agg 23 [.int .i64 n,L]]=some (.int .i64 (MK (F6 n) 0 es),[.agg 23 [.int .i64 n,L]]):=fun f=>by
  rw[←h f,AJD]
  simp(disch:=first|assumption|omega|(with_reducible rfl)|(simp only[go_sem];done)|(simp only[go_sem];omega)|fail) only[↓reduceIte,↓AL,Nat.reduceAdd,go_sem]
 rw[ANI,←ACs (F6 n) es 0]
 simp(disch:=first|assumption|omega|(with_reducible rfl)|(simp only[go_sem];done)|(simp only[go_sem];omega)|fail) only[↓reduceIte,↓AL,Nat.reduceAdd,go_sem,ix]
def AHH (n:Int) (e:E0) (h:F6 n e=false) (hn:n≤64):Ed.Edg:=⟨e.fr.toNat,e.to.toNat,e.w,by simp[F6]at h;omega,by simp[F6]at h;omega⟩
theorem AHI {n:Int} (hn:n≤64):∀es:List E0,es.any (F6 n)=false→∃l:List Ed.Edg,l.map Ed.vEdg=es.map Ql∧l.map (fun x=>((x.fr:Int),(x.to:Int)))=es.map fun e=>(e.fr,e.to)
 |[],_=>⟨[],rfl,rfl⟩
 |e::es,h=>by
  rw[List.any_cons,Bool.or_eq_false_iff]at h
  obtain⟨l,h1,h2⟩:=AHI hn es h.2
  have hb:=h.1
  simp only[F6,Bool.or_eq_false_iff,decide_eq_false_iff_not]at hb
  refine⟨AHH n e h.1 hn::l,?_,?_⟩
  ·rw[List.map_cons,List.map_cons,h1,Ed.vEdg,Ql,AHH]
   simp only[]
   rw[show(e.fr.toNat:Int)=e.fr by omega,show(e.to.toNat:Int)=e.to by omega]
  ·rw[List.map_cons,List.map_cons,h2,AHH]
   simp only[]
   rw[show(e.fr.toNat:Int)=e.fr by omega,show(e.to.toNat:Int)=e.to by omega]
abbrev SK (f:Fl) (l:List Ed.Edg):V:= .lst 112 f (l.map Ed.vEdg)
def D9 (l:List Ed.Edg):List Ed.Edg:=Ed.srtL l
theorem Qm (l:List Ed.Edg):(D9 l).Perm l:=Ed.srtL_perm l
theorem UK (l:List Ed.Edg):(D9 l).length=l.length:=(Qm l).length_eq
theorem ADp (a:V) (f:Fl) (l:List Ed.Edg):Cl 90 [SK .sh l] [a]=some (.clo 115 [.ref 1 [] 22],[a,SK .sh l]):=by
 rw[ANK]
 simp(disch:=first|assumption|omega|(with_reducible rfl)|(simp only[go_sem];done)|(simp only[go_sem];omega)|fail) only[↓reduceIte,↓AL,Nat.reduceAdd,go_sem]
 rfl
theorem AOI (l:List Ed.Edg):(l.map Ed.vEdg).all i3=true:=by simp[Ed.vEdg,i3]
theorem Zy (a:V) {l:List Ed.Edg} (hl:l.length≤1000000):Cl 113 [.clo 115 [.ref 1 [] 22]] [a,SK .sh l]=some (Ed.winM 2 l.length,[a,SK .sh l,Ed.rowM l.toArray]):=by
 rw[AJE]
 have ap:aps 115 112 [.lst 112 .nil [],.clo 115 [.ref 1 [] 22]] [a,SK .sh l]=some (Ed.winM 2 l.length,[a,SK .sh l,Ed.rowM l.toArray]):=by
  simp only[aps,List.getElem?_cons_succ,List.getElem?_cons_zero,AOI,List.length_map]
  rw[if_pos (by simp[Dh,Nat.ble_eq];omega)]
  simp[Ed.winM,Ed.rowM]
 rw[ap];rfl
theorem Zz (a:V) {l:List Ed.Edg} (hl:l.length≤1000000):Cl 89 [.clo 115 [.ref 1 [] 22],Ed.cm] [a,SK .sh l]=some (SK .sh (D9 l),[a,SK .sh l]):=by
 have c:=Zy a hl
 have s:aps 1000091 112 [Ed.winM 2 l.length,Ed.cm] [a,SK .sh l,Ed.rowM l.toArray]=some (.tup [],[a,SK .sh l,Ed.rowM (D9 l).toArray]):=Ed.sort_aps rfl hl
 have ct:Ad [a,SK .sh l,Ed.rowM (D9 l).toArray] (Ed.winM 2 l.length)=some ((D9 l).map Ed.vEdg):=by
  simp[Ad,Ed.winM,rd,V.at,V.items,Ed.rowM]
  rw[←UK l];exact List.take_of_length_le (by simp)
 have cl:AV ((D9 l).map Ed.vEdg)=true:=ADn (Dc (fun _=>rfl) _)
 have nl:AU ((D9 l).map Ed.vEdg)=(D9 l).map Ed.vEdg:=AHA (Dc (fun _=>rfl) _)
 have fin:AQ 2 [a,SK .sh l,Ed.rowM (D9 l).toArray] (Ed.winM 2 l.length)=some (SK .sh (D9 l),[a,SK .sh l]):=by
  have u:(Ed.winM 2 l.length).unmut [a,SK .sh l,Ed.rowM (D9 l).toArray]=SK .sh (D9 l):=by
   rw[Ed.winM]at ct⊢
   simp only[V.unmut,ct,cl,nl,if_true]
  simp only[AQ,u];rfl
 rw[ANJ]
 refine(AB c _).trans ?_
 refine(AB s _).trans ?_
 exact fin
def YO:Ed.Edg→List Ed.Edg→Bool
 |_,[]=>false
 |x,y::r=>decide (Ed.cmpE x y=0)||YO y r
@[go_sem] theorem ASF (l:List Ed.Edg):G5 (l.map Ed.vEdg)=true:=Dc (fun _=>rfl) l
theorem Vx {l:List Ed.Edg} {i:Nat} (h:i<l.length):(l.map Ed.vEdg)[i]?=some (Ed.vEdg l[i]):=by simp[h]
theorem AKV (a b:V) {l:List Ed.Edg} (hl:l.length≤1000000):∀(n i:Nat) (hi:i<l.length),i+1+n=l.length→
 O3 (SK .sh l) (.int .i64 ((i+1:Nat):Int)) [a,b]=some (.int .i64 (if YO l[i] (l.drop (i+1))=true then 51 else 0),[]):=by
 intro n
 induction n with
 |zero=>
  intro i hi hn
  rw[List.drop_eq_nil_of_le (by omega),YO,L9]
  simp(disch:=first|assumption|omega|(with_reducible rfl)|(simp only[go_sem];done)|(simp only[go_sem];omega)|fail) only[↓reduceIte,↓AL,Nat.reduceAdd,go_sem]
  rfl
 |succ n ih=>
  intro i hi hn
  have h:i+1<l.length:=by omega
  have:=ih (i+1) h (by omega)
  rw[List.drop_eq_getElem_cons h,YO,L9]
  by_cases hc:Ed.cmpE l[i] l[i+1]=0
  ·rw[decide_eq_true hc,Bool.true_or,if_pos rfl]
   simp(disch:=first|assumption|omega|(with_reducible rfl)|(simp only[go_sem];done)|(simp only[go_sem];omega)|fail) only[↓reduceIte,↓AL,Nat.reduceAdd,go_sem,Vx hi,Vx h,Ed.compare_am,hc,Nat.add_sub_cancel]
  ·rw[decide_eq_false hc,Bool.false_or,←this]
   simp(disch:=first|assumption|omega|(with_reducible rfl)|(simp only[go_sem];done)|(simp only[go_sem];omega)|fail) only[↓reduceIte,↓AL,Nat.reduceAdd,go_sem,Vx hi,Vx h,Ed.compare_am,Nat.add_sub_cancel]
def LG (x:Ed.Edg):Int×Int:=((x.fr:Int),(x.to:Int))
theorem AKW (x y:Ed.Edg):Ed.cmpE x y=0↔LG x=LG y:=by
 rw[Ed.cmpE,LG,LG,Prod.mk.injEq]
 by_cases h:x.fr=y.fr
 ·rw[if_pos h];omega
 ·rw[if_neg h];omega
theorem YP {x y:Ed.Edg} (h:Ed.ltE y x=false) (hn:LG x≠LG y):Ed.ltE x y=true:=by
 rw[Ed.ltE_iff']at h
 rw[Ed.ltE_iff]
 simp only[LG,ne_eq,Prod.mk.injEq]at hn
 omega
theorem ACt:∀(r:List Ed.Edg) (x:Ed.Edg),(x::r).Pairwise (fun a b=>Ed.ltE b a=false)→(YO x r=false↔((x::r).map LG).Nodup)
 |[],x,_=>by simp[YO]
 |y::r,x,h=>by
  obtain⟨h1,h2⟩:=List.pairwise_cons.1 h
  have ih:=ACt r y h2
  rw[YO,Bool.or_eq_false_iff,ih,decide_eq_false_iff_not,AKW,List.map_cons (l:=y::r),List.nodup_cons]
  refine and_congr_left fun hd=>⟨fun hn hm=> ?_,fun hm he=>hm (by rw[he];simp)⟩
  obtain⟨z,hz,he⟩:=List.mem_map.1 hm
  rcases List.mem_cons.1 hz with rfl|hz
  ·exact hn he.symm
  ·have a:=YP (h1 y List.mem_cons_self) hn
   have b:=(List.pairwise_cons.1 h2).1 z hz
   rw[Ed.ltE_iff]at a
   rw[Ed.ltE_iff']at b
   simp only[LG,Prod.mk.injEq]at he
   omega
theorem Vy (l:List Ed.Edg):(D9 l).Pairwise (fun a b=>Ed.ltE b a=false):=Ed.srtL_sorted l
def J9 (g:Grf):Int:=if 1≤g.n∧g.n≤64∧g.es.length≤512∧g.es.any (F6 g.n)=false then(if(g.es.map fun e=>(e.fr,e.to)).Nodup then 0 else 51)else 50
theorem ADq {g:Grf} (hl:g.es.length<1000000):Cl 61 [vG .sh g] []=some (.int .i64 (J9 g),[]):=by
 have an:=AKU g.n (.lst 112 .sh (g.es.map Ql)) hl .sh
 by_cases h1:g.n<1
 ·rw[J9,if_neg (by omega),O4]
  simp(disch:=first|assumption|omega|(with_reducible rfl)|(simp only[go_sem];done)|(simp only[go_sem];omega)|fail) only[↓reduceIte,↓AL,Nat.reduceAdd,go_sem]
 by_cases h2:64<g.n
 ·rw[J9,if_neg (by omega),O4]
  simp(disch:=first|assumption|omega|(with_reducible rfl)|(simp only[go_sem];done)|(simp only[go_sem];omega)|fail) only[↓reduceIte,↓AL,Nat.reduceAdd,go_sem]
 by_cases h3:512<g.es.length
 ·rw[J9,if_neg (by omega),O4]
  simp(disch:=first|assumption|omega|(with_reducible rfl)|(simp only[go_sem];done)|(simp only[go_sem];omega)|fail) only[↓reduceIte,↓AL,Nat.reduceAdd,go_sem]
 by_cases h4:g.es.any (F6 g.n)=true
 ·rw[J9,if_neg (by rw[h4];simp),O4]
  simp(disch:=first|assumption|omega|(with_reducible rfl)|(simp only[go_sem];done)|(simp only[go_sem];omega)|fail) only[↓reduceIte,↓AL,Nat.reduceAdd,go_sem,an,h4]
 have h4:g.es.any (F6 g.n)=false:=by simpa using h4
 obtain⟨l,l1,l2⟩:=AHI (by omega) g.es h4
 have hlen:l.length=g.es.length:=by have:=congrArg List.length l1;simpa using this
 have v:=ADp (vG .sh g) .sh l
 have st:=Zz (vG .sh g) (l:=l) (by omega)
 have hsl:=UK l
 have hnd:(g.es.map fun e=>(e.fr,e.to)).Nodup↔((D9 l).map LG).Nodup:=by
  rw[←l2];exact(((Qm l).map LG).nodup_iff).symm
 have so:=Vy l
 rw[J9,if_pos ⟨by omega,by omega,by omega,h4⟩]
 have e:(if(g.es.map fun e=>(e.fr,e.to)).Nodup then(0:Int)else 51)=(if((D9 l).map LG).Nodup then(0:Int)else 51):=by
  by_cases hh:(g.es.map fun e=>(e.fr,e.to)).Nodup
  ·rw[if_pos hh,if_pos (hnd.1 hh)]
  ·rw[if_neg hh,if_neg (fun k=>hh (hnd.2 k))]
 rw[e]
 have rest:O3 (SK .sh (D9 l)) (.int .i64 1) [vG .sh g,SK .sh l]=some (.int .i64 (if((D9 l).map LG).Nodup then(0:Int)else 51),[]):=by
  cases hs:D9 l with
  |nil=>
   rw[L9]
   simp(disch:=first|assumption|omega|(with_reducible rfl)|(simp only[go_sem];done)|(simp only[go_sem];omega)|fail) only[↓reduceIte,↓AL,Nat.reduceAdd,go_sem]
   rfl
  |cons x r=>
   have:=AKV (vG .sh g) (SK .sh l) (l:=x::r) (by rw[←hs];omega) r.length 0 (by simp) (by simp;omega)
   simp only[Nat.zero_add,c1,List.getElem_cons_zero,List.drop_succ_cons,List.drop_zero]at this
   rw[this]
   rw[hs]at so
   have ai:=ACt r x so
   by_cases hh:((x::r).map LG).Nodup
   ·rw[if_pos hh,if_neg (by rw[ai.2 hh];simp)]
   ·rw[if_neg hh,if_pos (by cases ha:YO x r with
     |true=>rfl
     |false=>exact absurd (ai.1 ha) hh)]
 have l3:l.length≤512:=by omega
 simp only[vG,←l1]at an v st rest⊢
 rw[O4]
 generalize D9 l=s at*
 simp(disch:=first|assumption|omega|(with_reducible rfl)|(simp only[go_sem];done)|(simp only[go_sem];omega)|fail) only[↓reduceIte,↓AL,Nat.reduceAdd,go_sem,an,h4,v,st,rest]
end
section
open Go AM
def I64 (n:Int):Prop:= -9223372036854775808≤n∧n<9223372036854775808
end
section
open Go AM
structure Vtx where
 id:Int
 val:Int
 act:Bool
 has:Bool
 inn:Int
 deriving DecidableEq
def VOk (x:Vtx):Prop:=I64 x.id∧I64 x.val∧I64 x.inn
abbrev tVx:TypeId:=80
def FZ (x:Vtx):V:= .agg tVx [.int .i64 x.id,.int .i64 x.val,.bool x.act,.bool x.has,.int .i64 x.inn]
@[go_sem] theorem ATR (x:Vtx):(FZ x).pl=true:=(rfl)
@[go_sem] theorem AKX (l:List Vtx):G5 (l.map FZ)=true:=Dc (fun _=>rfl) l
@[go_sem] theorem ASG (x:Vtx):BI tVx (FZ x)=true:=Ji ..
@[go_sem] theorem ASH (l:List Vtx):(l.map FZ).all (BI tVx)=true:=all_map (fun _=>Ji ..) l
theorem AL5 {l:List Vtx} {i:Nat} (h:i<l.length):(l.map FZ)[i]?=some (FZ l[i]):=by simp[h]
end
section
open Go AM
abbrev iv (n:Nat):V:= .int .i64 (n:Int)
theorem YQ {B:Type} {h:List V} {x:Int} (h0:0≤x) (h1:x<9223372036854775808) (K:V→Option B):(conv P h 3 93 (.int .i64 x)).bind K=K (.int .u64 (x.toNat:Int)):=by
 refine(AB (BQ D5 ..) _).trans ?_
 rw[wrap_u64 (by omega) (by omega)]
 congr 2;omega
def sL (f:Fl) (l:List (List UInt8)):V:= .lst 9 f (l.map V.str)
theorem AL6 (s:List UInt8):BJ P 9 (.str s)=true:=by simp[BJ,K_9,BK,EJ]
theorem AOJ (n:Nat) (h:List V) (f:Fl) (hf:f≠ .lent) (l:List (List UInt8)):AQ n h (sL f l)=some (sL .sh l,h.take n):=by
 cases f<;>first|exact absurd rfl hf|rfl
theorem UL:∀(n:Nat) (l:List (List UInt8)),Ac n (l.map V.str)=true
 |_,[]=>rfl
 |n,x::l=>by simp only[List.map_cons,Ac,UL n l];rfl
theorem AHK (n:Nat) (f:Fl) (l:List (List UInt8)):(sL f l).under n=true:=by cases f<;>first|rfl|exact UL n l
theorem AQt {B:Type} {f:Fl} {h:List V} {l:List (List UInt8)} (hf:OK f) (hl:l.length+1≤2147483648) (x:List UInt8) (K':V→Option B):
 (Bv P 58 1 [(0,.str x)]).bind (fun y=>(DW P 58 h (sL f l) y).bind K')=K' (sL .own (l++[x])):=by
 refine(AB (ACl AJg (AL6 x) rfl ANU ⟨_,rfl⟩) _).trans ?_
 have t1:F8 P 9 [V.str x]=true:=by simp[F8,AL6]
 refine(AB (Zl AJg hf (y:=V.lst 9 .own [.str x]) rfl rfl t1 (by simpa using hl) ANU) _).trans ?_
 rw[sL,List.map_append];rfl
end
section
open Go AM
theorem AQu (a b:List UInt8):Bv P 182 2 [(0,bL .own a),(1,bL .own b)]=some (.lst 68 .own (parts [(.sh,a),(.sh,b)])):=by
 simp[Bv,QM,Bc,tyB,cp,ALs,bL,List.replicate,AV,V.clean,DJ,AU,V.norm,V.weak,parts,part,F5,BJ]
theorem AQv (f g:Fl) (a b:List UInt8):flat [(f,a),(g,b)]=a++b:=by simp[flat]
theorem AKY {s:List UInt8} (hs:s.length<2147000000):Cl 118 [.str s] []=some (Ar (ZF (0::s)),[]):=by
 rw[AJH,ABl,ABm,Zn]
 refine(AB (X9 0 (by omega)) _).trans<|(AG4 (by omega) _).trans<|(AB (AQu _ _) _).trans ?_
 obtain⟨f',L',e1,e2,e3⟩:=NR ([]++[Ar (List.replicate 32 0)]) .own [(.sh,[UInt8.ofNat 0]),(.sh,s)]
 have er:AA ([]++[Ar (List.replicate 32 0)]) [.lst 68 .own (parts [(.sh,[UInt8.ofNat 0]),(.sh,s)])]=[.lst 68 f' (parts L')]:=by simp only[AA,e1]
 rw[er]
 rw[AQv]at e2
 refine(AB (ACm L' (by rw[e3];simp) f' (by rw[e2];simp;omega) (by rw[e2];simp)) _).trans ?_
 refine(AB (CB (P:=P) (h:=[]++[Ar (List.replicate 32 0)]) (id:=0) rfl (QX _) (QY _ _)) _).trans ?_
 refine(AB (BG (h:=[Ar (ZF (flat L'))]) (id:=0) (v:=Ar (ZF (flat L'))) (CS rfl)) _).trans ?_
 rw[LC,e2];rfl
theorem Vz {B:Type} {a b:List UInt8} (h:a.length+b.length≤4611686018427387904) (K:V→Option B):(AO .add (.str a) (.str b)).bind K=K (.str (a++b)):=AB (Tm a b h) K
theorem AKZ {s:List UInt8} (hs:s.length<2147000000):Cl 124 [.str s] []=some (.str (ZF (0::s)),[]):=by
 rw[AJN,AB1,AB2]
 refine(Vz (by simp;omega) _).trans ?_
 refine(AB (IV (s:=[0]++s) (by simp;omega)) _).trans ?_
 rw[F9];rfl
theorem AOK (l:List UInt8) (hl:l.length=32) (z:List UInt8):∀(n i:Nat) (w:List UInt8),i+n=32→w.length=32→w.take i=l.take i→
 OA (.str l) (.ref 0 [] 55) (.ref 1 [] 55) (iv i) [Ar z,Ar w]=some (Ar l,[]):=by
 intro n
 induction n with
 |zero=>
  intro i w hi hw ht
  rw[PL,VW]
  refine(E8 (by omega) _).trans ?_
  rw[A7,A7,ABs]
  have e:w=l:=by
   rw[List.take_of_length_le (by omega),List.take_of_length_le (by omega)]at ht;exact ht
  subst e
  refine(AB (BG (v:=Ar w) (CS rfl)) _).trans ?_
  refine(AB (CB (w:=Ar z) rfl (QX _) (QY _ _)) _).trans ?_
  refine(AB (BG (v:=Ar w) (CS rfl)) _).trans ?_
  exact LC _ _ _
 |succ n ih=>
  intro i w hi hw ht
  rw[PL,VW]
  refine(EY (by omega) _).trans ?_
  rw[Au]
  refine(AB (show lenV P 9 (.str l)=some (.int .i64 (l.length:Int))by simp[lenV,EJ]) _).trans ?_
  refine(EY (by omega) _).trans ?_
  rw[Au,ABq]
  have hg:l[i]?=some l[i]:=by simp
  refine(AB (ACh EJ hg) _).trans<|(AB (AP5 (by omega)) _).trans ?_
  refine(AB (AP6 (l:=w) rfl (by omega) (UInt8.toNat_lt _)) _).trans ?_
  rw[ABr]
  refine(FC (b:=1) (by omega) _).trans ?_
  refine ih (i+1) (w.set i (UInt8.ofNat l[i].toNat)) (by omega) (by simp[hw]) ?_
  rw[YH (by omega),ht,List.take_add_one,hg]
  simp
theorem AOL {l:List UInt8} (hl:l.length=32):Cl 122 [.str l] []=some (Ar l,[]):=by
 rw[AJL,ABn,ABo,Zn]
 refine(AB (show WU P 55 []=some (Ar (List.replicate 32 0))by rw[←Zn];simp[WU,AJf,Bc,ALr]) _).trans ?_
 refine(AB (CB (P:=P) (h:=[]++[Ar (List.replicate 32 0)]++[Ar (List.replicate 32 0)]) (id:=1) rfl (QX _) (QY _ _)) _).trans ?_
 rw[ABp]
 exact AOK l hl _ 32 0 _ rfl rfl rfl
end
section
open Go AM
theorem AOM (a b c:List UInt8) (id:Nat) (h:List V):Bv P 182 3 [(0,bL .own a),(1,bL .own b),(2,.win id [] 0 32 5)]=some (.lst 68 .lent [bL .sh a,bL .sh b,.win id [] 0 32 5]):=by
 simp[Bv,QM,Bc,tyB,cp,ALs,bL,List.replicate,AV,V.clean,DJ,AU,V.norm,V.weak,F5,BJ]
theorem ATS {id:Nat}:JY P 55 (.ref id [] 55) none none none=some (.win id [] 0 32 5):=by
 simp[JY,AJf,Bh]
theorem V3 {h:List V} {id:Nat} {c:List UInt8} (hh:h[id]?=some (Ar c)) (hc:c.length=32):V.reify h (.win id [] 0 32 5)=bL .lent c:=by
 have:Ad h (.win id [] 0 32 5)=some (bytesOf c):=by
  simp[Ad,rd,hh,V.at,V.items,Ar]
  rw[List.take_of_length_le (by rw[Ak];omega)]
 simp only[V.reify,this,CU,FW,if_true,bL]
def UM (n:Nat) (t:List UInt8):List UInt8:=ZF ([3]++BR n++t)
theorem AKa {n:Nat} {t:List UInt8} (hn:n<1000000000) (ht:t.length=32):Cl 94 [iv n,Ar t] []=some (Ar (UM n t),[]):=by
 have c1:(BJ P 55 (Ar t)&&V.under (List.length ([]:List V)) (Ar t))=true:=by rw[QX,QY];rfl
 have nb:=Aq 10 n
 rw[ANO,AGU,if_pos c1,Zn,AGV]
 refine(AB (JE _) _).trans ?_
 rw[AGW]
 refine(YQ (by omega) (by omega) _).trans ?_
 have e1:AU [Dy (([]++[Ar t])++[Ar (List.replicate 32 0)]:List V).length,V.int .u64 ((n:Int).toNat:Int)]=[Dy 2,V.int .u64 (n:Int)]:=rfl
 rw[e1]
 refine(AB (EZ (id:=2) (h:=(([]++[Ar t])++[Ar (List.replicate 32 0)])++[Bg .nil []]) rfl (Or.inr rfl) (by omega) (by simp)) _).trans ?_
 rw[AGX]
 have eh:((([]++[Ar t])++[Ar (List.replicate 32 0)])++[Bg .nil []]:List V).set 2 (Bg .own ([]++BR n))=[Ar t,Ar (List.replicate 32 0),Bg .own (BR n)]:=rfl
 rw[eh]
 refine(AB (X9 3 (by omega)) _).trans ?_
 refine(AB (G9 (id:=2) (h:=[Ar t,Ar (List.replicate 32 0),Bg .own (BR n)]) rfl) _).trans ?_
 refine(AG4 (by rw[BR];omega) _).trans<|(AB ATS _).trans<|(AB (AOM [UInt8.ofNat 3] (BR n) [] 0 []) _).trans ?_
 have er:AA [Ar t,Ar (List.replicate 32 0),Bg .own (BR n)] [.lst 68 .lent [bL .sh [UInt8.ofNat 3],bL .sh (BR n),.win 0 [] 0 32 5]]=[.lst 68 .lent (parts [(.sh,[UInt8.ofNat 3]),(.sh,BR n),(.lent,t)])]:=by
  have w:=V3 (h:=[Ar t,Ar (List.replicate 32 0),Bg .own (BR n)]) (id:=0) (c:=t) rfl ht
  show[V.lst 68 .lent [V.reify _ (bL .sh [UInt8.ofNat 3]),V.reify _ (bL .sh (BR n)),V.reify [Ar t,Ar (List.replicate 32 0),Bg .own (BR n)] (.win 0 [] 0 32 5)]]=_
  rw[w];rfl
 rw[er]
 have ef:flat [(.sh,[UInt8.ofNat 3]),(.sh,BR n),(.lent,t)]=[3]++BR n++t:=by simp[flat]
 refine(AB (ACm _ (by simp) .lent (by rw[ef];simp only[List.length_append,BR];simp;omega) (by rw[ef];simp)) _).trans ?_
 rw[ef]
 refine(AB (CB (P:=P) (h:=[Ar t,Ar (List.replicate 32 0),Bg .own (BR n)]) (id:=1) rfl (QX _) (QY _ _)) _).trans ?_
 refine(AB (BG (h:=[Ar t,Ar (ZF ([3]++BR n++t)),Bg .own (BR n)]) (id:=1) (v:=Ar (ZF ([3]++BR n++t))) (CS rfl)) _).trans ?_
 exact LC _ _ _
theorem AON:∀(k n:Nat),n<128^k→0<k→k≤10→n<18446744073709551616→Cl 51 [.int .u64 (n:Int)] []=some (.str (Jh k n),[]):=by
 intro k
 induction k with
 |zero=>intro n _ h _ _;omega
 |succ k ih=>
  intro n hn _ hk h64
  have cv:∀(l:List UInt8) (K:V→Option (V×List V)),(conv P [] 68 9 (bL .own l)).bind K=K (.str l):=fun l K=>AB (by simp[conv,EJ,J3,NH,bL,Ad,J7]) K
  rw[AMu,AFQ,AFR,Jh]
  by_cases hb:n<128
  ·refine(EY (by omega) _).trans ?_
   rw[Au,AFS,if_pos hb]
   refine(cv8 _).trans ?_
   rw[Nat.mod_eq_of_lt (by omega)]
   refine(AB (X9 n (by omega)) _).trans<|(cv _ _).trans ?_
   rw[F9];rfl
  ·refine(E8 (by omega) _).trans ?_
   rw[A7,AFT,if_neg hb]
   refine(Qa (b:=128) (by decide) _).trans<|(Ew (b:=128) (by omega) _).trans<|(cv8 _).trans ?_
   rw[Nat.mod_eq_of_lt (show n%128+128<256 by omega)]
   refine(AB (X9 _ (by omega)) _).trans<|(cv _ _).trans<|(NS (b:=128) (by decide) h64 _).trans ?_
   have k0:0<k:=by
    rcases Nat.eq_zero_or_pos k with h|h
    ·subst h;simp at hn;omega
    ·exact h
   refine(AB (ih (n/128) (by rw[Nat.pow_succ]at hn;omega) k0 (by omega) (by omega)) _).trans ?_
   have:=Aq k (n/128)
   refine(Vz (by simp;omega) _).trans ?_
   rw[F9];rfl
theorem JH {n:Nat} (h:n<18446744073709551616):Cl 51 [.int .u64 (n:Int)] []=some (.str (BR n),[]):=AON 10 n (Nat.lt_of_lt_of_le h (by decide)) (by omega) (by omega) h
theorem Z4 {n:Nat} {t:List UInt8} (hn:n<1000000000) (ht:t.length=32):Cl 100 [iv n,.str t] []=some (Ar (UM n t),[]):=by
 have nb:=Aq 10 n
 rw[AI4,AA7,AA8,Zn]
 refine(YQ (by omega) (by omega) _).trans ?_
 refine(AB (JH (n:=n) (by omega)) _).trans ?_
 refine(Vz (by rw[BR];simp;omega) _).trans<|(Vz (by simp only[List.length_append,BR];simp;omega) _).trans ?_
 refine(AB (IV (s:=[3]++BR n++t) (by simp only[List.length_append,BR];simp;omega)) _).trans ?_
 refine(AB (AOL (Kz _)) _).trans ?_
 refine(AB (CB (P:=P) (h:=[]++[Ar (List.replicate 32 0)]) (id:=0) rfl (QX _) (QY _ _)) _).trans ?_
 refine(AB (BG (h:=[Ar (UM n t)]) (id:=0) (v:=Ar (UM n t)) (CS rfl)) _).trans ?_
 exact LC _ _ _
end
section
open Go AM
@[go_sem] theorem ML (l:List UInt8):(Ar l).pl=true:=UH l
@[go_sem] theorem Oe (l:List UInt8):BI 54 (Ar l)=true:=Ji ..
theorem KA:V.agg 54 (List.replicate 32 (V.int .u8 0))=Ar (List.replicate 32 0):=rfl
@[go_sem] theorem IX (l:List (List UInt8)):G5 (l.map V.str)=true:=Dc (fun _=>rfl) l
@[go_sem] theorem AQw (l:List (List UInt8)):(l.map V.str).all tyS=true:=all_map (fun _=>rfl) l
@[go_sem] theorem ATT (l:List UInt8):G5 (bytesOf l)=true:=UH l
def LH (n:Nat):Nat→Nat→Nat
 |0,k=>k
 |f+1,k=>if 2*k<n then LH n f (2*k)else k
def Jk (n:Nat):Nat:=LH n 62 1
theorem YR (n:Nat):∀(f k:Nat),0<k→k<n→0<LH n f k∧LH n f k<n
 |0,k,h,h2=>⟨h,h2⟩
 |f+1,k,h,h2=>by
  rw[LH];split
  ·exact YR n f (2*k) (by omega) (by omega)
  ·exact⟨h,h2⟩
theorem AQx {n k f:Nat} (h:n<k*2^(f+1)):n<2*k*2^f:=by
 rw[Nat.pow_succ]at h
 have e:k*(2^f*2)=2*k*2^f:=by rw[Nat.mul_comm 2 k,Nat.mul_assoc,Nat.mul_comm (2^f)]
 omega
theorem AKb (n:Nat) (hn:n<2^61):∀(f k:Nat),0<k→k≤n→n<k*2^f→N9 (iv n) (iv k)=some (iv (LH n f k),[]):=by
 intro f
 induction f with
 |zero=>intro k h h2 h3;omega
 |succ f ih=>
  intro k h h2 h3
  rw[Zd,LH]
  have h2':(2:Int)*(k:Int)=((2*k:Nat):Int):=by omega
  by_cases hk:2*k<n
  ·rw[if_pos hk]
   refine(AB (AQe (by omega) (by omega)) _).trans<|(EY (by omega) _).trans ?_
   rw[Au]
   refine(AB (AHB (by omega) (by omega)) _).trans ?_
   rw[show(k:Int)*2=((2*k:Nat):Int)by omega]
   exact ih (2*k) (by omega) (by omega) (AQx h3)
  ·rw[if_neg hk]
   refine(AB (AQe (by omega) (by omega)) _).trans<|(E8 (by omega) _).trans ?_
   rfl
theorem AKc {n:Nat} (h2:2≤n) (hn:n<2^61):Cl 119 [iv n] []=some (iv (Jk n),[]):=by
 rw[AJI]
 refine(E8 (by omega) _).trans ?_
 rw[A7]
 exact AKb n hn 62 1 (by omega) (by omega) (by omega)
theorem Z5 (n:Nat) (hn:n<2^61):∀(f k:Nat),0<k→k≤n→n<k*2^f→OE (iv n) (iv k)=some (iv (LH n f k),[]):=by
 intro f
 induction f with
 |zero=>intro k h h2 h3;omega
 |succ f ih=>
  intro k h h2 h3
  rw[Ze,LH]
  have e:(2:Int)*(k:Int)=((2*k:Nat):Int):=by omega
  refine(AB (AHB (by omega) (by omega)) _).trans ?_
  rw[e]
  by_cases hk:2*k<n
  ·rw[if_pos hk]
   refine(EY (by omega) _).trans ?_
   rw[Au]
   refine(AB (AHB (by omega) (by omega)) _).trans ?_
   rw[e]
   exact ih (2*k) (by omega) (by omega) (AQx h3)
  ·rw[if_neg hk]
   refine(E8 (by omega) _).trans ?_
   rfl
theorem Z7 {n:Nat} (h2:1≤n) (hn:n<2^61):Cl 125 [iv n] []=some (iv (Jk n),[]):=by
 rw[AJO]
 exact Z5 n hn 62 1 (by omega) (by omega) (by omega)
def AHL (a b:List UInt8):List UInt8:=ZF ([1]++a++b)
theorem AKd {a b:List UInt8} (ha:a.length=32) (hb:b.length=32):Cl 120 [Ar a,Ar b] []=some (Ar (AHL a b),[]):=by
 have er:V.reify [Ar a,Ar b,Ar (List.replicate 32 0)] (.lst 68 .lent [bL .sh [1],.win 0 [] 0 32 5,.win 1 [] 0 32 5])= .lst 68 .lent (parts [(.sh,[1]),(.lent,a),(.lent,b)]):=by
  have w:=V3 (h:=[Ar a,Ar b,Ar (List.replicate 32 0)]) (id:=0) (c:=a) rfl ha
  have w':=V3 (h:=[Ar a,Ar b,Ar (List.replicate 32 0)]) (id:=1) (c:=b) rfl hb
  show V.lst 68 .lent [V.reify _ (bL .sh [1]),V.reify [Ar a,Ar b,Ar (List.replicate 32 0)] (.win 0 [] 0 32 5),V.reify [Ar a,Ar b,Ar (List.replicate 32 0)] (.win 1 [] 0 32 5)]=_
  rw[w,w'];rfl
 have ef:flat [(.sh,[1]),(.lent,a),(.lent,b)]=[1]++a++b:=by simp[flat]
 rw[AJJ,KA]
 simp(disch:=first|assumption|omega|(with_reducible rfl)|(simp only[go_sem];done)|(simp only[go_sem];omega)|fail) only[↓reduceIte,↓AL,Nat.reduceAdd,go_sem]
 refine(AB (show Hy 68 true (some [.lst 5 .sh [.int .u8 1],(V.win 0 [] 0 32 5).weak,(V.win 1 [] 0 32 5).weak])=some (.lst 68 .lent [bL .sh [1],.win 0 [] 0 32 5,.win 1 [] 0 32 5])from rfl) _).trans ?_
 rw[er]
 refine(AB (ACm _ (by simp) .lent (by rw[ef];simp;omega) (by rw[ef];simp)) _).trans ?_
 rw[ef]
 simp(disch:=first|assumption|omega|(with_reducible rfl)|(simp only[go_sem];done)|(simp only[go_sem];omega)|fail) only[↓reduceIte,↓AL,Nat.reduceAdd,go_sem]
 rfl
theorem Z8 {a b:List UInt8} (ha:a.length=32) (hb:b.length=32):Cl 126 [.str a,.str b] []=some (.str (AHL a b),[]):=by
 rw[AJP]
 simp(disch:=first|assumption|omega|(with_reducible rfl)|(simp only[go_sem];done)|(simp only[go_sem];omega)|fail) only[↓reduceIte,↓AL,Nat.reduceAdd,go_sem,IV]
 rfl
def Qn:Nat→List (List UInt8)→List UInt8
 |0,_=>ZF [2]
 |f+1,l=>if l.length=0 then ZF [2]else if l.length=1 then ZF (0::l.getD 0 [])else AHL (Qn f (l.take (Jk l.length))) (Qn f (l.drop (Jk l.length)))
theorem Gq:∀(f:Nat) (l:List (List UInt8)),(Qn f l).length=32
 |0,_=>Kz _
 |f+1,l=>by rw[Qn];split;·exact Kz _
            split<;>exact Kz _
def Short (l:List (List UInt8)):Prop:=∀s∈l,s.length<2147000000
theorem Short.take {l:List (List UInt8)} (h:Short l) (n:Nat):Short (l.take n):=fun s hs=>h s (List.mem_of_mem_take hs)
theorem Short.drop {l:List (List UInt8)} (h:Short l) (n:Nat):Short (l.drop n):=fun s hs=>h s (List.mem_of_mem_drop hs)
theorem of0 {x:Nat} (hx:x<256) {g:Fl}:Cl 117 [.lst 68 g [.lst 5 .sh [.int .u8 (x:Int)]]] []=some (Ar (ZF [UInt8.ofNat x]),[]):=by
 have e:[V.lst 5 .sh [.int .u8 (x:Int)]]=parts [(.sh,[UInt8.ofNat x])]:=by
  simp only[parts,part,List.map_cons,List.map_nil,bL,bytesOf]
  rw[UInt8.toNat_ofNat',Nat.mod_eq_of_lt (by omega)]
 rw[e,ACm _ (by simp) g (by simp[flat]) (by simp[flat])]
 simp[flat]
theorem YS {n:Nat} (h:2≤n):0<Jk n∧Jk n<n:=YR n 62 1 (by omega) (by omega)
theorem AOO:∀(f:Nat) (l:List (List UInt8)) (g:Fl),l.length≤f→f<2000000000→Short l→Cl 95 [.lst 9 g (l.map V.str)] []=some (Ar (Qn f l),[]):=by
 intro f
 induction f with
 |zero=>
  intro l g hl _ _
  have:l=[]:=List.eq_nil_of_length_eq_zero (by omega)
  subst this
  rw[AGY,KA,Qn]
  simp(disch:=first|assumption|omega|(with_reducible rfl)|(simp only[go_sem];done)|(simp only[go_sem];omega)|fail) only[↓reduceIte,↓AL,Nat.reduceAdd,go_sem,List.map_nil]
  refine(AB (of0 (x:=2) (by omega)) _).trans ?_
  simp(disch:=first|assumption|omega|(with_reducible rfl)|(simp only[go_sem];done)|(simp only[go_sem];omega)|fail) only[↓reduceIte,↓AL,Nat.reduceAdd,go_sem]
  rfl
 |succ f ih=>
  intro l g hl hf hs
  rw[AGY,KA,Qn]
  by_cases h0:l.length=0
  ·simp(disch:=first|assumption|omega|(with_reducible rfl)|(simp only[go_sem];done)|(simp only[go_sem];omega)|fail) only[↓reduceIte,↓AL,Nat.reduceAdd,go_sem,h0]
   refine(AB (of0 (x:=2) (by omega)) _).trans ?_
   simp(disch:=first|assumption|omega|(with_reducible rfl)|(simp only[go_sem];done)|(simp only[go_sem];omega)|fail) only[↓reduceIte,↓AL,Nat.reduceAdd,go_sem]
   rfl
  by_cases h1:l.length=1
  ·have hg:l[0]?=some (l.getD 0 []):=by rw[List.getD_eq_getElem?_getD,List.getElem?_eq_getElem (by omega)];rfl
   have hm:(l.getD 0 []).length<2147000000:=hs _ (List.mem_of_getElem? hg)
   simp(disch:=first|assumption|omega|(with_reducible rfl)|(simp only[go_sem];done)|(simp only[go_sem];omega)|fail) only[↓reduceIte,↓AL,Nat.reduceAdd,go_sem,h0,h1,List.getElem?_map,hg,AKY hm]
   rfl
  have hh:=YS (n:=l.length) (by omega)
  have hx:∀g,Cl 95 [.lst 9 g ((l.take (Jk l.length)).map V.str)] []=_:=fun g=>ih _ g (by simp;omega) (by omega) (hs.take _)
  have hy:∀g,Cl 95 [.lst 9 g ((l.drop (Jk l.length)).map V.str)] []=_:=fun g=>ih _ g (by simp;omega) (by omega) (hs.drop _)
  simp(disch:=first|assumption|omega|(with_reducible rfl)|(simp only[go_sem];done)|(simp only[go_sem];omega)|fail) only[↓reduceIte,↓AL,Nat.reduceAdd,go_sem,h0,h1,AKc (n:=l.length) (by omega) (by omega),←List.map_take,←List.map_drop,hx,hy,AKd (Gq _ _) (Gq _ _)]
def YT (l:List (List UInt8)):List UInt8:=UM l.length (Qn l.length l)
theorem UN (n:Nat) (t:List UInt8):(UM n t).length=32:=Kz _
theorem AKe {g:Fl} {l:List (List UInt8)} (hl:l.length<1000000000) (hs:Short l):Cl 66 [.lst 9 g (l.map V.str)] []=some (Ar (YT l),[]):=by
 have h:=fun g=>AOO l.length l g (Nat.le_refl _) (by omega) hs
 rw[AM2,KA]
 simp(disch:=first|assumption|omega|(with_reducible rfl)|(simp only[go_sem];done)|(simp only[go_sem];omega)|fail) only[↓reduceIte,↓AL,Nat.reduceAdd,go_sem,h,AKa (n:=l.length) hl (Gq _ _)]
 rfl
theorem ADr:∀(f:Nat) (l:List (List UInt8)) (g:Fl),l.length≤f→f<2000000000→Short l→Cl 101 [.lst 9 g (l.map V.str)] []=some (.str (Qn f l),[]):=by
 intro f
 induction f with
 |zero=>
  intro l g hl _ _
  have:l=[]:=List.eq_nil_of_length_eq_zero (by omega)
  subst this
  rw[AA9,Qn]
  simp(disch:=first|assumption|omega|(with_reducible rfl)|(simp only[go_sem];done)|(simp only[go_sem];omega)|fail) only[↓reduceIte,↓AL,Nat.reduceAdd,go_sem,List.map_nil,IV]
 |succ f ih=>
  intro l g hl hf hs
  rw[AA9,Qn]
  by_cases h0:l.length=0
  ·simp(disch:=first|assumption|omega|(with_reducible rfl)|(simp only[go_sem];done)|(simp only[go_sem];omega)|fail) only[↓reduceIte,↓AL,Nat.reduceAdd,go_sem,h0,IV]
  by_cases h1:l.length=1
  ·have hg:l[0]?=some (l.getD 0 []):=by rw[List.getD_eq_getElem?_getD,List.getElem?_eq_getElem (by omega)];rfl
   have hm:(l.getD 0 []).length<2147000000:=hs _ (List.mem_of_getElem? hg)
   simp(disch:=first|assumption|omega|(with_reducible rfl)|(simp only[go_sem];done)|(simp only[go_sem];omega)|fail) only[↓reduceIte,↓AL,Nat.reduceAdd,go_sem,h0,h1,List.getElem?_map,hg,AKZ hm]
   rfl
  have hh:=YS (n:=l.length) (by omega)
  have hx:∀g,Cl 101 [.lst 9 g ((l.take (Jk l.length)).map V.str)] []=_:=fun g=>ih _ g (by simp;omega) (by omega) (hs.take _)
  have hy:∀g,Cl 101 [.lst 9 g ((l.drop (Jk l.length)).map V.str)] []=_:=fun g=>ih _ g (by simp;omega) (by omega) (hs.drop _)
  simp(disch:=first|assumption|omega|(with_reducible rfl)|(simp only[go_sem];done)|(simp only[go_sem];omega)|fail) only[↓reduceIte,↓AL,Nat.reduceAdd,go_sem,h0,h1,Z7 (n:=l.length) (by omega) (by omega),←List.map_take,←List.map_drop,hx,hy,Z8 (Gq _ _) (Gq _ _)]
theorem YU {g:Fl} {l:List (List UInt8)} (hl:l.length<1000000000) (hs:Short l):Cl 71 [.lst 9 g (l.map V.str)] []=some (Ar (YT l),[]):=by
 have h:=fun g=>ADr l.length l g (Nat.le_refl _) (by omega) hs
 rw[AM5,KA]
 simp(disch:=first|assumption|omega|(with_reducible rfl)|(simp only[go_sem];done)|(simp only[go_sem];omega)|fail) only[↓reduceIte,↓AL,Nat.reduceAdd,go_sem,h,Z4 (n:=l.length) hl (Gq _ _)]
 rfl
end
section
open Go AM
def JI:List UInt8:=List.replicate 32 0
theorem AKf:V.agg 54 (List.replicate 32 (V.int .u8 0))=Ar JI:=rfl
theorem V4:∀a b:List UInt8,a.length=b.length→Lp (bytesOf a) (bytesOf b)=some (decide (a=b))
 |[],[],_=>rfl
 |x::a,y::b,h=>by
  have e:∀(z:UInt8) (l:List UInt8),bytesOf (z::l)= .int .u8 (z.toNat:Int)::bytesOf l:=fun _ _=>rfl
  rw[e,e]
  simp only[Lp,Jv,if_true,Option.bind_some]
  by_cases hxy:x=y
  ·subst hxy
   simp[V4 a b (by simpa using h)]
  ·have:¬(x.toNat:Int)=(y.toNat:Int):=fun h=>hxy (UInt8.toNat_inj.1 (by omega))
   simp[this,hxy]
 |[],_::_,h=>by simp at h
 |_::_,[],h=>by simp at h
@[go_sem] theorem eqA {a b:List UInt8} (ha:a.length=32) (hb:b.length=32):U2 (BI 54) .eql (Ar a) (Ar b)=some (.bool (decide (a=b))):=by
  have h:Jv (Ar a) (Ar b)=some (decide (a=b)):=by simp only[Ar,Jv,if_true,V4 a b (by omega)]
  simp only[U2,Oe,Bool.and_self,if_true,h,Option.map_some]
@[go_sem] theorem neA {a b:List UInt8} (ha:a.length=32) (hb:b.length=32):U2 (BI 54) .neq (Ar a) (Ar b)=some (.bool (!decide (a=b))):=by
  have h:Jv (Ar a) (Ar b)=some (decide (a=b)):=by simp only[Ar,Jv,if_true,V4 a b (by omega)]
  simp only[U2,Oe,Bool.and_self,if_true,h,Option.map_some]
@[go_sem] theorem AQy (l:List (List UInt8)):G5 (l.map Ar)=true:=Dc ML l
@[go_sem] theorem AQz (l:List (List UInt8)):(l.map Ar).all (BI 54)=true:=all_map Oe l
theorem AHM (a:V):Cl 45 [] [a]=some (Dy 1,[a,Bg .nil []]):=JE [a]
theorem Qo {a:V} {f:Fl} {l:List UInt8} {x:Int} (hf:OK f) (h0:0≤x) (h1:x<18446744073709551616) (hl:l.length≤2000000000):Cl 46 [Dy 1,.int .u64 x] [a,Bg f l]=some (.tup [],[a,Bg .own (l++BR x.toNat)]):=by
 have:=EZ (h:=[a,Bg f l]) (id:=1) (n:=x.toNat) rfl hf (by omega) (by omega)
 rw[show((x.toNat:Nat):Int)=x by omega]at this
 exact this
theorem ADs {a:V} {f:Fl} {l:List UInt8}:Cl 50 [Dy 1] [a,Bg f l]=some (.str l,[a,Bg f l]):=G9 (h:=[a,Bg f l]) (id:=1) rfl
@[go_sem] theorem APc (n:Nat):V.norm (Dy n)=Dy n:=(rfl)
@[go_sem] theorem AOP {n m:Nat} (h:n<m):V.under m (Dy n)=true:=UI h ..
theorem V5:OK .own:=Or.inl rfl
theorem AOQ:OK .nil:=Or.inr rfl
def Aa (s:List UInt8) (e:Nat):List UInt8×List UInt8×Nat:=
 if e≠0 then(JI,s,e)else if s.length<32 then(JI,s,20)else(s.take 32,s.drop 32,0)
theorem ATU {h:List V} {s w:List UInt8} {a:V} (hw:w.length=32) (hs:32≤s.length):cpy P 68 (h++[a,Ar w]) (.win (h.length+1) [] 0 32 5) (.str s)=some (.int .i64 32,h++[a,Ar (s.take 32)]):=by
 have hg:(h++[a,Ar w])[h.length+1]?=some (Ar w):=by simp
 have hset:∀v,(h++[a,Ar w]).set (h.length+1) v=h++[a,v]:=by intro v;simp
 have e:EI P 68=5:=by simp[EI,F5]
 have hm:min (bytesOf s).length 32=32:=by rw[Ak];omega
 have hrd:rd (h++[a,Ar w]) (h.length+1) []=some (Ar w):=CS hg
 have hb:(bytesOf s)=s.map fun b=>V.int .u8 b.toNat:=rfl
 simp only[cpy,e,Ad]
 rw[←hb,Option.bind_some,hm,hrd]
 simp only[Option.bind_some,Ar,V.items,CU,Eu,Bool.and_self,if_true,DJ,Vf,Nat.beq_refl,Bool.true_eq_false,Bool.false_eq_true,if_false,List.take_zero,List.nil_append,Nat.zero_add,bytesOf_take]
 rw[bytesOf_drop,List.drop_of_length_le (by omega)]
 simp only[wr]
 rw[show(V.agg 54 (bytesOf w))=Ar w from rfl,hg]
 simp only[Option.bind_some,V.upd,Option.map_some,hset]
 simp[bytesOf,Ar]
theorem AHN {h:List V} {id:Nat} {s:List UInt8} (hh:h[id]?=some (BA s 0)) (a:V):
 Reads (.clo 110 [.ref (h.length+1) [] 55]) (h++[a,Ar JI]) s (if s.length<32 then 0 else 32) (if s.length<32 then 20 else 0) (h++[a,Ar (Aa s 0).1]):=by
 intro k
 rw[Gj k (by kernel_rfl) (by kernel_rfl)]
 have e1:AU ([V.str s]++[V.ref (h.length+1) [] 55])=[V.str s,V.ref (h.length+1) [] 55]:=rfl
 have tk:∀v:V,(h++[a,v]).take (h++[a,Ar JI]).length=h++[a,v]:=by
  intro v
  rw[show(h++[a,Ar JI]).length=(h++[a,v]).length by simp,take_len]
 rw[e1,AJB]
 by_cases hs:s.length<32
 ·have e:(Aa s 0).1=JI:=by simp[Aa,hs]
  have t:=tk (Ar JI)
  simp only[List.length_append,List.length_cons,List.length_nil]at t
  rw[if_pos hs,if_pos hs,e]
  simp(disch:=first|assumption|omega|(with_reducible rfl)|(simp only[go_sem];done)|(simp only[go_sem];omega)|fail) only[↓reduceIte,↓AL,Nat.reduceAdd,go_sem,t]
  rfl
 ·have e:(Aa s 0).1=s.take 32:=by simp[Aa,hs]
  have hc:=ATU (h:=h) (a:=a) (w:=JI) rfl (show 32≤s.length by omega)
  have t:=tk (Ar (s.take 32))
  simp only[List.length_append,List.length_cons,List.length_nil]at t
  rw[if_neg hs,if_neg hs,e]
  simp(disch:=first|assumption|omega|(with_reducible rfl)|(simp only[go_sem];done)|(simp only[go_sem];omega)|fail) only[↓reduceIte,↓AL,Nat.reduceAdd,go_sem,hc,t]
  rfl
theorem AKg {h:List V} {id:Nat} {s:List UInt8} {e:Nat} (hh:h[id]?=some (BA s e)):
 Cl 84 [CP id] h=some (Ar (Aa s e).1,h.set id (BA (Aa s e).2.1 (Aa s e).2.2)):=by
 have hid:=IJ hh
 rw[ANE,AKf]
 have hh1:(h++[Ar JI,Ar JI])[id]?=some (BA s e):=Kr _ hh
 have cap:List.all [V.ref (h.length+1) [] 55] V.capOk=true:=rfl
 have e0:h++[Ar JI]++[Ar JI]=h++[Ar JI,Ar JI]:=by simp
 have e00:(h++[Ar JI]).length=h.length+1:=by simp
 have e1:AU [CP id,V.clo 110 [V.ref (h.length+1) [] 55]]=[CP id,V.clo 110 [V.ref (h.length+1) [] 55]]:=rfl
 rw[e0,e00,if_pos cap,Option.bind_some,e1]
 have fin:∀(x:List UInt8) (v:V),(AY (h.set id v++[Ar JI,Ar x]) 55 (.ref (h.length+1) [] 55)).bind (fun t7=>(CJ (BI 54) 55 (h.set id v++[Ar JI,Ar x]) (.ref h.length [] 55) t7).bind fun h4=>(AY h4 55 (.ref h.length [] 55)).bind fun c=>AQ h.length h4 c)=some (Ar x,h.set id v):=by
  intro x v
  have g1:(h.set id v++[Ar JI,Ar x])[h.length+1]?=some (Ar x):=by
   rw[List.getElem?_append_right (by simp)];simp
  have g2:(h.set id v++[Ar JI,Ar x]).set h.length (Ar x)=h.set id v++[Ar x,Ar x]:=by
   rw[List.set_append_right _ _ (by simp)];simp
  have g3:(h.set id v++[Ar x,Ar x])[h.length]?=some (Ar x):=by
   rw[List.getElem?_append_right (by simp)];simp
  have g4:(h.set id v++[Ar x,Ar x]).take h.length=h.set id v:=take_set h _ id v
  simp(disch:=first|assumption|omega|(with_reducible rfl)|(simp only[go_sem];done)|(simp only[go_sem];omega)|fail) only[↓reduceIte,↓AL,Nat.reduceAdd,go_sem,g1]
  refine(AB (AOD (by simp) (Oe x) (by simp only[go_sem]) _) _).trans ?_
  rw[g2]
  simp(disch:=first|assumption|omega|(with_reducible rfl)|(simp only[go_sem];done)|(simp only[go_sem];omega)|fail) only[↓reduceIte,↓AL,Nat.reduceAdd,go_sem,g3,g4]
 by_cases he:e=0
 ·subst he
  have hr:=Vl hh1 (AHN hh (Ar JI)) (Kr _ hh) (by split<;>omega)
  refine(AB hr _).trans ?_
  have e4:∀v x,((h++[Ar JI,Ar x]).set id v).take (h++[Ar JI,Ar JI]).length=h.set id v++[Ar JI,Ar x]:=by
   intro v x
   rw[Vk _ _ hid,show(h++[Ar JI,Ar JI]).length=(h.set id v++[Ar JI,Ar x]).length by simp,take_len]
  rw[e4]
  refine(fin _ _).trans ?_
  by_cases hs:s.length<32
  ·simp[Aa,hs]
  ·simp[Aa,hs]
 ·refine(AB (QS hh1 he) _).trans ?_
  have:=fin JI (BA s e)
  rw[Kv hh]at this
  refine this.trans ?_
  simp only[Aa,he,ne_eq,not_false_eq_true,if_true]
  rw[Kv hh]
@[go_sem] theorem AQ0 (n:Nat):V.norm (CP n)=CP n:=(rfl)
@[go_sem] theorem ADt {n m:Nat} (h:n<m):V.under m (CP n)=true:=UI h ..
@[go_sem] theorem AHO (s:List UInt8) (e:Nat):(BA s e).pl=true:=(rfl)
theorem Qp (s:List UInt8) (e:Nat):(Aa s e).1.length=32∧(Aa s e).2.1.length≤s.length:=by
 simp only[Aa]
 split
 ·exact⟨rfl,Nat.le_refl _⟩
 ·split
  ·exact⟨rfl,Nat.le_refl _⟩
  ·simp;omega
section
variable {a b c:V} {s:List UInt8} {e:Nat}
end
@[go_sem] theorem AUb {s:List UInt8} (h:1≤s.length) (k:IntKind):slT (.str s) (some (.int k 1)) none=some (.str (s.drop 1)):=AOE h k
end
section
open Go AM
def V6:List (List UInt8):=[[109,97,120],[108,97,98,101,108],[115,115,115,112],[98,102,115],[100,101,103,114,101,101],[114,97,110,107],[119,97,108,107,115]]
def KC (t:List UInt8):Bool:=V6.any fun s=>decide (t=s)
theorem AKh (t:List UInt8) {ls:List (List UInt8)} (hl:ls.length<1000000) (f:Fl):∀(m i:Nat),i+m=ls.length→
 Nw (.lst 9 f (ls.map .str)) (.str t) (.int .i64 (ls.length:Int)) (.int .i64 (i:Int))=some (.int .i64 (MK (fun s=>decide (t=s)) i (ls.drop i)),[]):=by
 intro m
 induction m with
 |zero=>
  intro i hi
  rw[List.drop_eq_nil_of_le (by omega),O7]
  simp(disch:=first|assumption|omega|(with_reducible rfl)|(simp only[go_sem];done)|(simp only[go_sem];omega)|fail) only[↓reduceIte,↓AL,Nat.reduceAdd,go_sem,MK]
 |succ m ih=>
  intro i hi
  have h:i<ls.length:=by omega
  have:=ih (i+1) (by omega)
  have ha:(ls.map V.str)[i]?=some (.str ls[i]):=by simp[h]
  rw[List.drop_eq_getElem_cons h,MK,O7]
  by_cases ho:t=ls[i]
  ·rw[if_pos (decide_eq_true ho)]
   simp(disch:=first|assumption|omega|(with_reducible rfl)|(simp only[go_sem];done)|(simp only[go_sem];omega)|fail) only[↓reduceIte,↓AL,Nat.reduceAdd,go_sem,ha]
  ·rw[if_neg (by simp[ho]),←this]
   simp(disch:=first|assumption|omega|(with_reducible rfl)|(simp only[go_sem];done)|(simp only[go_sem];omega)|fail) only[↓reduceIte,↓AL,Nat.reduceAdd,go_sem,ha]
theorem YV (t:List UInt8):Cl 62 [.str t] []=some (.bool (KC t),[]):=by
 have h:=AKh t (ls:=V6) (by decide) .sh V6.length 0 (by omega)
 simp only[c0,List.drop_zero]at h
 have h2:Cl 92 [.lst 9 .sh (V6.map .str),.str t] []=some (.bool (KC t),[]):=by
  have ix:Cl 116 [.lst 9 .sh (V6.map .str),.str t] []=some (.int .i64 (MK (fun s=>decide (t=s)) 0 V6),[]):=by
   rw[←h,AJF]
   simp(disch:=first|assumption|omega|(with_reducible rfl)|(simp only[go_sem];done)|(simp only[go_sem];omega)|fail) only[↓reduceIte,↓AL,Nat.reduceAdd,go_sem]
  rw[KC,←ACs _ V6 0,ANM]
  simp(disch:=first|assumption|omega|(with_reducible rfl)|(simp only[go_sem];done)|(simp only[go_sem];omega)|fail) only[↓reduceIte,↓AL,Nat.reduceAdd,go_sem,ix]
 simp only[V6,List.map_cons,List.map_nil]at h2
 rw[AMy]
 simp(disch:=first|assumption|omega|(with_reducible rfl)|(simp only[go_sem];done)|(simp only[go_sem];omega)|fail) only[↓reduceIte,↓AL,Nat.reduceAdd,go_sem,h2]
theorem UO (t:List UInt8):Cl 69 [.str t] []=some (.bool (KC t),[]):=by
 rw[AM3]
 repeat' first|rfl|refine Qi (fun _=> ?_) (fun _=> ?_)|refine Qj (fun _=> ?_) (fun _=> ?_)|simp(disch:=first|assumption|omega|(with_reducible rfl)|(simp only[go_sem];done)|(simp only[go_sem];omega)|fail) only[↓reduceIte,↓AL,Nat.reduceAdd,go_sem]
 all_goals simp_all [KC,V6]
structure Job where
 tag:List UInt8
 src:Int
 steps:Int
abbrev vJ (j:Job):V:= .agg 25 [.str j.tag,.int .i64 j.src,.int .i64 j.steps]
def NT (g:Grf) (j:Job):Bool:=decide (J9 g=0∧KC j.tag=true∧0≤j.src∧j.src<g.n∧1≤j.steps∧j.steps≤64)
theorem ADu {g:Grf} (hl:g.es.length<1000000) (j:Job):Cl 32 [vG .sh g,vJ j] []=some (.int .i64 (if NT g j=true then 0 else 70),[]):=by
 have hg:=ADq hl
 rw[AMe]
 repeat' first|rfl|refine Qi (fun _=> ?_) (fun _=> ?_)|refine Qj (fun _=> ?_) (fun _=> ?_)|simp(disch:=first|assumption|omega|(with_reducible rfl)|(simp only[go_sem];done)|(simp only[go_sem];omega)|fail) only[↓reduceIte,↓AL,Nat.reduceAdd,go_sem,hg,YV]
 all_goals (rw[NT];simp_all)
 all_goals omega
def firstX (j:Job) (v:Int):Vtx:=
 if KC j.tag=true then⟨v,if j.tag=[109,97,120]then(37*v+11).tmod 64 else if j.tag=[108,97,98,101,108]then v else if j.tag=[115,115,115,112]∨j.tag=[98,102,115]then(if v=j.src then 0 else -1)else if j.tag=[114,97,110,107]then 65536 else if j.tag=[119,97,108,107,115]then 1 else 0,true,false,0⟩else⟨0,0,false,false,0⟩
theorem AL7 (a:Int):AO .rem (.int .i64 a) (.int .i64 64)=some (.int .i64 (a.tmod 64)):=NK _ _ _ (by omega)
theorem AHP (j:Job) {v:Int} (h1:0≤v) (h2:v<1000):Cl 34 [vJ j,.int .i64 v] []=some (FZ (firstX j v),[]):=by
 rw[AMg]
 repeat' first|rfl|refine Qi (fun _=> ?_) (fun _=> ?_)|refine Qj (fun _=> ?_) (fun _=> ?_)|simp(disch:=first|assumption|omega|(with_reducible rfl)|(simp only[go_sem];done)|(simp only[go_sem];omega)|fail) only[↓reduceIte,↓AL,Nat.reduceAdd,go_sem,YV,AL7]
 all_goals simp_all [firstX,FZ]
theorem ADv (j:Job) {v:Int} (h1:0≤v) (h2:v<1000):Cl 40 [vJ j,.int .i64 v] []=some (FZ (firstX j v),[]):=by
 rw[AMm]
 repeat' first|rfl|refine Qi (fun _=> ?_) (fun _=> ?_)|refine Qj (fun _=> ?_) (fun _=> ?_)|simp(disch:=first|assumption|omega|(with_reducible rfl)|(simp only[go_sem];done)|(simp only[go_sem];omega)|fail) only[↓reduceIte,↓AL,Nat.reduceAdd,go_sem,UO,AL7]
 all_goals simp_all [firstX,FZ]
end
section
open Go AM
def mA (v:Nat):Nat:=v*2654435761%4294967296
def mB (a:Nat):Nat:=a ^^^ (a/32768)
def mC (b:Nat):Nat:=b*2246822519%4294967296
def mD (c:Nat):Nat:=c ^^^ (c/8192)
def mixN (v:Nat):Nat:=mD (mC (mB (mA v)))
theorem AL8 (v:Nat):mA v<4294967296:=Nat.mod_lt _ (by omega)
theorem AHQ (v:Nat):mC v<4294967296:=Nat.mod_lt _ (by omega)
theorem Gs {a:Nat} (h:a<4294967296) (k:Nat):a/k<4294967296:=Nat.lt_of_le_of_lt (Nat.div_le_self a k) h
theorem AQ1 {a:Nat} (h:a<4294967296):mB a<4294967296:=Nat.xor_lt_two_pow (n:=32) h (Gs h _)
theorem AQ2 {a:Nat} (h:a<4294967296):mD a<4294967296:=Nat.xor_lt_two_pow (n:=32) h (Gs h _)
theorem AOR (v:Nat):mixN v<4294967296:=AQ2 (AHQ _)
theorem AL9 (a c:Nat):AO .mul (.int .u32 (a:Int)) (.int .u32 (c:Int))=some (.int .u32 ((a*c%4294967296:Nat):Int)):=by
 rw[QN,←Int.natCast_mul,G6]
theorem AMA {a:Nat} (h:a<4294967296) (k:Nat) (hk:k≤32):AO .shr (.int .u32 (a:Int)) (.int .u64 (k:Int))=some (.int .u32 ((a/2^k:Nat):Int)):=by
 have e:(min (k:Int).toNat IntKind.u32.bits)=k:=by simp only[IntKind.bits,Int.toNat_natCast];omega
 have h2:=Nat.div_le_self a (2^k)
 have e2:((2:Int)^k)=((2^k:Nat):Int):=by simp
 rw[Tj _ _ _ _ (by omega),e,e2,Int.fdiv_eq_ediv_of_nonneg _ (Int.natCast_nonneg _),←Int.natCast_ediv]
@[go_sem] theorem m1 (a:Nat):AO .mul (.int .u32 (a:Int)) (.int .u32 2654435761)=some (.int .u32 (mA a:Int)):=AL9 a 2654435761
@[go_sem] theorem m2 (a:Nat):AO .mul (.int .u32 (a:Int)) (.int .u32 2246822519)=some (.int .u32 (mC a:Int)):=AL9 a 2246822519
theorem s15 {a:Nat} (h:a<4294967296):AO .shr (.int .u32 (a:Int)) (.int .u64 15)=some (.int .u32 ((a/32768:Nat):Int)):=AMA h 15 (by omega)
theorem s13 {a:Nat} (h:a<4294967296):AO .shr (.int .u32 (a:Int)) (.int .u64 13)=some (.int .u32 ((a/8192:Nat):Int)):=AMA h 13 (by omega)
theorem AOS (v:Nat):Cl 93 [.int .u32 (v:Int)] []=some (.int .u32 (mixN v:Int),[]):=by
 have a1:=AL8 v
 have b1:=AHQ (mB (mA v))
 have x1:AO .xor (.int .u32 (mA v:Int)) (.int .u32 ((mA v/32768:Nat):Int))=some (.int .u32 (mB (mA v):Int)):=u32_xor a1 (Gs a1 _)
 have x2:AO .xor (.int .u32 (mC (mB (mA v)):Int)) (.int .u32 ((mC (mB (mA v))/8192:Nat):Int))=some (.int .u32 (mixN v:Int)):=u32_xor b1 (Gs b1 _)
 rw[ANN]
 simp(disch:=first|assumption|omega|(with_reducible rfl)|(simp only[go_sem];done)|(simp only[go_sem];omega)|fail) only[↓reduceIte,↓AL,Nat.reduceAdd,go_sem,s15 a1,x1,s13 b1,x2]
theorem AKi {a c:Nat} (h:a*c<18446744073709551616):AO .mul (.int .u64 (a:Int)) (.int .u64 (c:Int))=some (.int .u64 ((a*c:Nat):Int)):=by
 rw[QN,←Int.natCast_mul,wrap_u64 (by omega) (by omega)]
theorem q64 {a:Nat} (h:a<18446744073709551616) {c:Nat} (hc:0<c):AO .quo (.int .u64 (a:Int)) (.int .u64 (c:Int))=some (.int .u64 ((a/c:Nat):Int)):=by
 have:=Nat.div_le_self a c
 rw[Xy _ _ _ (by omega),(MI a c).1]
 generalize a/c=q at*
 rw[wrap_u64 (by omega) (by omega)]
theorem k1 {v:Nat} (h:v<4294967296) (K:V→Rv):((AO .mul (.int .u64 (v:Int)) (.int .u64 2654435761)).bind fun t=>(AO .rem t (.int .u64 4294967296)).bind K)=K (.int .u64 (mA v:Int)):=
 (AB (AKi (a:=v) (c:=2654435761) (by omega)) _).trans (AB (AHC (a:=v*2654435761) (b:=4294967296) (by omega) .u64) _)
theorem k2 {v:Nat} (h:v<4294967296) (K:V→Rv):((AO .mul (.int .u64 (v:Int)) (.int .u64 2246822519)).bind fun t=>(AO .rem t (.int .u64 4294967296)).bind K)=K (.int .u64 (mC v:Int)):=
 (AB (AKi (a:=v) (c:=2246822519) (by omega)) _).trans (AB (AHC (a:=v*2246822519) (b:=4294967296) (by omega) .u64) _)
theorem AKj {v:Nat} (hv:v<4294967296):Cl 99 [.int .u32 (v:Int)] []=some (.int .u32 (mixN v:Int),[]):=by
 have a1:=AL8 v
 have b0:=AQ1 a1
 have b1:=AHQ (mB (mA v))
 have d1:=AOR v
 have q1:AO .quo (.int .u64 (mA v:Int)) (.int .u64 32768)=some (.int .u64 ((mA v/32768:Nat):Int)):=q64 (c:=32768) (by omega) (by omega)
 have q2:AO .quo (.int .u64 (mC (mB (mA v)):Int)) (.int .u64 8192)=some (.int .u64 ((mC (mB (mA v))/8192:Nat):Int)):=q64 (c:=8192) (by omega) (by omega)
 have x1:AO .xor (.int .u64 (mA v:Int)) (.int .u64 ((mA v/32768:Nat):Int))=some (.int .u64 (mB (mA v):Int)):=u64_xor (by omega) (by have:=Gs a1 32768;omega)
 have x2:AO .xor (.int .u64 (mC (mB (mA v)):Int)) (.int .u64 ((mC (mB (mA v))/8192:Nat):Int))=some (.int .u64 (mixN v:Int)):=u64_xor (by omega) (by have:=Gs b1 8192;omega)
 have cv1:Hz .u64 (.int .u32 (v:Int))=some (.int .u64 (v:Int)):=cvI_u64 (by omega) (by omega)
 have cv2:Hz .u32 (.int .u64 (mixN v:Int))=some (.int .u32 (mixN v:Int)):=by rw[Hz,wrap_u32 (by omega) (by omega)]
 rw[ANR]
 refine(AB cv1 _).trans<|(k1 hv _).trans<|(AB q1 _).trans<|(AB x1 _).trans<|(k2 b0 _).trans<|(AB q2 _).trans<|(AB x2 _).trans<|(AB cv2 _).trans ?_
 simp(disch:=first|assumption|omega|(with_reducible rfl)|(simp only[go_sem];done)|(simp only[go_sem];omega)|fail) only[↓reduceIte,↓AL,Nat.reduceAdd,go_sem]
def ownN (v n:Nat):Nat:=mixN v%n
theorem AHR {v n:Nat} (hv:v<1000) (h1:1≤n) (h2:n≤64):Cl 65 [.int .i64 (v:Int),.int .i64 (n:Int)] []=some (.int .i64 (ownN v n:Int),[]):=by
 have hm:=AOS v
 have cv1:Hz .u32 (.int .i64 (v:Int))=some (.int .u32 (v:Int)):=by rw[Hz,wrap_u32 (by omega) (by omega)]
 have cv2:Hz .u32 (.int .i64 (n:Int))=some (.int .u32 (n:Int)):=by rw[Hz,wrap_u32 (by omega) (by omega)]
 have r:=AHC (a:=mixN v) (b:=n) (by omega) .u32
 have hl:mixN v%n<n:=Nat.mod_lt _ (by omega)
 rw[ownN,AM1]
 simp(disch:=first|assumption|omega|(with_reducible rfl)|(simp only[go_sem];done)|(simp only[go_sem];omega)|fail) only[↓reduceIte,↓AL,Nat.reduceAdd,go_sem,cv1,cv2,hm,r]
theorem ADw {v n:Nat} (hv:v<1000) (h1:1≤n) (h2:n≤64):Cl 70 [.int .i64 (v:Int),.int .i64 (n:Int)] []=some (.int .i64 (ownN v n:Int),[]):=by
 have hm:=AKj (v:=v) (by omega)
 have r0:AO .rem (.int .u64 (v:Int)) (.int .u64 4294967296)=some (.int .u64 (v:Int)):=by
  have:=AHC (a:=v) (b:=4294967296) (by omega) .u64
  rwa [Nat.mod_eq_of_lt (by omega)]at this
 have cv0:Hz .u64 (.int .i64 (v:Int))=some (.int .u64 (v:Int)):=cvI_u64 (by omega) (by omega)
 have cv1:Hz .u32 (.int .u64 (v:Int))=some (.int .u32 (v:Int)):=by rw[Hz,wrap_u32 (by omega) (by omega)]
 have cv2:Hz .u32 (.int .i64 (n:Int))=some (.int .u32 (n:Int)):=by rw[Hz,wrap_u32 (by omega) (by omega)]
 have r:=AHC (a:=mixN v) (b:=n) (by omega) .u32
 have hl:mixN v%n<n:=Nat.mod_lt _ (by omega)
 rw[ownN,AM4]
 simp(disch:=first|assumption|omega|(with_reducible rfl)|(simp only[go_sem];done)|(simp only[go_sem];omega)|fail) only[↓reduceIte,↓AL,Nat.reduceAdd,go_sem,cv0,cv1,cv2,hm,r0,r]
def ofL (n N w:Nat):List Nat:=(List.range n).filter fun v=>decide (ownN v N=w)
theorem Qq (n N w:Nat):ofL (n+1) N w=if ownN n N=w then ofL n N w++[n]else ofL n N w:=by
 simp only[ofL,List.range_succ,List.filter_append,List.filter_cons,List.filter_nil]
 by_cases h:ownN n N=w<;>simp[h]
theorem Z9 {n N w v:Nat} (h:v∈ofL n N w):v<n:=by
 simp only[ofL,List.mem_filter,List.mem_range]at h;exact h.1
theorem HY (n N w:Nat):(ofL n N w).length≤n:=by
 have:=List.length_filter_le (fun v=>decide (ownN v N=w)) (List.range n)
 simpa [ofL]using this
attribute [irreducible] mixN ownN ofL
abbrev WW (f:Fl) (l:List Nat):V:= .lst 3 f (l.map fun(v:Nat)=>V.int .i64 (v:Int))
@[go_sem] theorem AQ3 (l:List Nat):G5 (l.map fun(v:Nat)=>V.int .i64 (v:Int))=true:=Dc (fun _=>rfl) l
@[go_sem] theorem AQ4 (l:List Nat):(l.map fun(v:Nat)=>V.int .i64 (v:Int)).all (KW .i64)=true:=all_map (fun _=>rfl) l
theorem YW (f:Fl) (l:List Nat) (v:Nat):WW f (l++[v])= .lst 3 f ((l.map fun(v:Nat)=>V.int .i64 (v:Int))++[.int .i64 (v:Int)]):=by simp[WW]
theorem AOT {v N w:Nat} (hv:v<1000) (h1:1≤N) (h2:N≤64):Cl 64 [.int .i64 (v:Int),.ref 0 [] 3,.ref 1 [] 3] [.int .i64 (N:Int),.int .i64 (w:Int)]=some (.bool (decide (ownN v N=w)),[.int .i64 (N:Int),.int .i64 (w:Int)]):=by
 have ho:=AHR hv h1 h2
 have e:decide ((ownN v N:Int)=(w:Int))=decide (ownN v N=w):=decide_eq_decide.2 (by omega)
 rw[AM0]
 simp(disch:=first|assumption|omega|(with_reducible rfl)|(simp only[go_sem];done)|(simp only[go_sem];omega)|fail) only[↓reduceIte,↓AL,Nat.reduceAdd,go_sem,ho,e]
theorem ATV {v N w:Nat} (hv:v<1000) (h1:1≤N) (h2:N≤64) (k:V→List V→Rv):CG P DZ W (.clo 64 [.ref 0 [] 3,.ref 1 [] 3]) [.int .i64 (v:Int)] [.int .i64 (N:Int),.int .i64 (w:Int)] k=k (.bool (decide (ownN v N=w))) [.int .i64 (N:Int),.int .i64 (w:Int)]:=
 MJ k (by kernel_rfl) (by kernel_rfl) (AOT hv h1 h2)
theorem AOU {n N w:Nat} (hn:n≤64) (h1:1≤N) (h2:N≤64):∀(m i:Nat) (f:Fl),i+m=n→(f= .own∨f= .nil)→
 Oz (.clo 64 [.ref 0 [] 3,.ref 1 [] 3]) (WW f (ofL i N w)) (.int .i64 (n:Int)) (.int .i64 (i:Int)) [.int .i64 (N:Int),.int .i64 (w:Int)]=some (.tup [WW .sh (ofL n N w),.int .i64 0],[]):=by
 intro m
 induction m with
 |zero=>
  intro i f hi hf
  obtain rfl:i=n:=by omega
  rw[TN]
  rcases hf with rfl|rfl
  ·simp(disch:=first|assumption|omega|(with_reducible rfl)|(simp only[go_sem];done)|(simp only[go_sem];omega)|fail) only[↓reduceIte,↓AL,Nat.reduceAdd,go_sem]
  ·simp(disch:=first|assumption|omega|(with_reducible rfl)|(simp only[go_sem];done)|(simp only[go_sem];omega)|fail) only[↓reduceIte,↓AL,Nat.reduceAdd,go_sem]
 |succ m ih=>
  intro i f hi hf
  have hl:=HY i N w
  have hv:=YW .own (ofL i N w) i
  have h:=ATV (v:=i) (N:=N) (w:=w) (by omega) h1 h2
  rw[TN]
  by_cases ho:ownN i N=w
  ·have:=ih (i+1) .own (by omega) (Or.inl rfl)
   rw[Qq,if_pos ho]at this
   rcases hf with rfl|rfl
   ·simp(disch:=first|assumption|omega|(with_reducible rfl)|(simp only[go_sem];done)|(simp only[go_sem];omega)|fail) only[↓reduceIte,↓AL,Nat.reduceAdd,go_sem,h,decide_eq_true ho]
    rw[hv]at this;exact this
   ·simp(disch:=first|assumption|omega|(with_reducible rfl)|(simp only[go_sem];done)|(simp only[go_sem];omega)|fail) only[↓reduceIte,↓AL,Nat.reduceAdd,go_sem,h,decide_eq_true ho]
    rw[hv]at this;exact this
  ·have:=ih (i+1) f (by omega) hf
   rw[Qq,if_neg ho]at this
   simp(disch:=first|assumption|omega|(with_reducible rfl)|(simp only[go_sem];done)|(simp only[go_sem];omega)|fail) only[↓reduceIte,↓AL,Nat.reduceAdd,go_sem,h,decide_eq_false ho]
   exact this
theorem AOV {n N w:Nat} (h0:1≤n) (hn:n≤64) (h1:1≤N) (h2:N≤64) (hw:w<N):Cl 33 [.int .i64 (n:Int),.int .i64 (N:Int),.int .i64 (w:Int)] []=some (.tup [WW .sh (ofL n N w),.int .i64 0],[]):=by
 have h:=AOU (w:=w) hn h1 h2 n 0 .nil (by omega) (Or.inr rfl)
 have r:Cl 63 [.int .i64 (n:Int),.int .i64 (N:Int)] []=some (.bool true,[]):=by
  rw[AMz]
  simp(disch:=first|assumption|omega|(with_reducible rfl)|(simp only[go_sem];done)|(simp only[go_sem];omega)|fail) only[↓reduceIte,↓AL,Nat.reduceAdd,go_sem]
  rw[decide_eq_true (by omega)]
 have z:WW .nil (ofL 0 N w)= .lst 3 .nil []:=by simp[ofL]
 rw[z]at h
 rw[←h,AMf]
 simp(disch:=first|assumption|omega|(with_reducible rfl)|(simp only[go_sem];done)|(simp only[go_sem];omega)|fail) only[↓reduceIte,↓AL,Nat.reduceAdd,go_sem,r]
 rfl
theorem AKk {v N w:Nat} (hv:v<1000) (h1:1≤N) (h2:N≤64) (K:V→Rv):((Cl 70 (AA [] [.int .i64 (v:Int),.int .i64 (N:Int)]) []).bind fun r=>(AO .eql r.1 (.int .i64 (w:Int))).bind K)=K (.bool (decide (ownN v N=w))):=by
 have e:decide ((ownN v N:Int)=(w:Int))=decide (ownN v N=w):=decide_eq_decide.2 (by omega)
 refine(AB (ADw hv h1 h2) _).trans ?_
 rw[b_eql,e];rfl
theorem AOW {n N w:Nat} (hn:n≤64) (h1:1≤N) (h2:N≤64):∀(m i:Nat),i+m=n→
 O0 (.int .i64 (n:Int)) (.int .i64 (N:Int)) (.int .i64 (w:Int)) (WW .own (ofL i N w)) (.int .i64 (i:Int))=some (WW .sh (ofL n N w),[]):=by
 intro m
 induction m with
 |zero=>
  intro i hi
  obtain rfl:i=n:=by omega
  rw[TR]
  simp(disch:=first|assumption|omega|(with_reducible rfl)|(simp only[go_sem];done)|(simp only[go_sem];omega)|fail) only[↓reduceIte,↓AL,Nat.reduceAdd,go_sem]
 |succ m ih=>
  intro i hi
  have hl:=HY i N w
  have hv:=YW .own (ofL i N w) i
  have hs:=Qq i N w
  have:=ih (i+1) (by omega)
  rw[TR]
  refine(AB (show AO .lss (.int .i64 (i:Int)) (.int .i64 (n:Int))=some (.bool true)by rw[b_lss,decide_eq_true (by omega)]) _).trans ?_
  rw[CW]
  refine(AKk (by omega) h1 h2 _).trans ?_
  rw[hs]at this
  generalize ownN i N=o at*
  generalize ofL i N w=l at*
  by_cases ho:o=w
  ·rw[if_pos ho]at this
   rw[decide_eq_true ho]
   simp(disch:=first|assumption|omega|(with_reducible rfl)|(simp only[go_sem];done)|(simp only[go_sem];omega)|fail) only[↓reduceIte,↓AL,Nat.reduceAdd,go_sem]
   rw[hv]at this;exact this
  ·rw[if_neg ho]at this
   rw[decide_eq_false ho]
   simp(disch:=first|assumption|omega|(with_reducible rfl)|(simp only[go_sem];done)|(simp only[go_sem];omega)|fail) only[↓reduceIte,↓AL,Nat.reduceAdd,go_sem]
   exact this
theorem AOX {n N w:Nat} (hn:n≤64) (h1:1≤N) (h2:N≤64):Cl 39 [.int .i64 (n:Int),.int .i64 (N:Int),.int .i64 (w:Int)] []=some (WW .sh (ofL n N w),[]):=by
 have h:=AOW (w:=w) hn h1 h2 n 0 (by omega)
 have z:WW .own (ofL 0 N w)= .lst 3 .own []:=by simp[ofL]
 rw[z]at h
 rw[←h,AMl]
 simp(disch:=first|assumption|omega|(with_reducible rfl)|(simp only[go_sem];done)|(simp only[go_sem];omega)|fail) only[↓reduceIte,↓AL,Nat.reduceAdd,go_sem]
 rfl
end
section
open Go AM
abbrev kE (e:E0):Int×Int:=(e.fr,e.to)
theorem AHS (es:List E0) {i:Nat} (h:i<es.length):((es.take (i+1)).map kE).Nodup↔((es.take i).map kE).Nodup∧(es.take i).any (fun x=>decide (kE x=kE es[i]))=false:=by
 rw[List.take_add_one,List.getElem?_eq_getElem h,Option.toList_some,List.map_append,List.nodup_append]
 simp only[List.map_cons,List.map_nil,List.nodup_cons,List.not_mem_nil,not_false_eq_true,List.nodup_nil,and_self,true_and,List.mem_cons,or_false]
 refine and_congr_right fun _=> ?_
 rw[List.any_eq_false]
 constructor
 ·intro h x hx;simp only[decide_eq_true_eq];exact fun e=>h (kE x) (List.mem_map_of_mem hx) _ rfl e
 ·rintro h a ha b rfl e
  obtain⟨x,hx,rfl⟩:=List.mem_map.1 ha
  exact h x hx (decide_eq_true e)
theorem AQ5 {g:Grf} (hl:g.es.length<1000000) {i:Nat} (hi:i<g.es.length):∀(n k:Nat) (b:Bool),k+n=i→
 VH rG (.bool b) (.int .i64 (i:Int)) (.ref 1 [] 112) (.int .i64 (k:Int)) 1 [vG .sh g,Ql g.es[i]]=
  O5 rG (.bool (b||((g.es.take i).drop k).any (fun x=>decide (kE x=kE g.es[i])))) (.int .i64 ((i+1:Nat):Int)) [vG .sh g]:=by
 intro n
 induction n with
 |zero=>
  intro k b hk
  rw[List.drop_eq_nil_of_le (by simp;omega),List.any_nil,Bool.or_false,TV]
  simp(disch:=first|assumption|omega|(with_reducible rfl)|(simp only[go_sem];done)|(simp only[go_sem];omega)|fail) only[↓reduceIte,↓AL,Nat.reduceAdd,go_sem]
 |succ n ih=>
  intro k b hk
  have hk2:k<g.es.length:=by omega
  have hx:=ACr hk2
  have hlen:k<(g.es.take i).length:=by simp;omega
  have hd:(g.es.take i).drop k=g.es[k]::(g.es.take i).drop (k+1):=by
   rw[List.drop_eq_getElem_cons hlen,List.getElem_take]
  rw[hd,List.any_cons,TV]
  cases b with
  |true=>
   have:=ih (k+1) true (by omega)
   rw[Bool.true_or]at this⊢
   rw[←this]
   simp(disch:=first|assumption|omega|(with_reducible rfl)|(simp only[go_sem];done)|(simp only[go_sem];omega)|fail) only[↓reduceIte,↓AL,Nat.reduceAdd,go_sem]
  |false=>
   rw[Bool.false_or]
   by_cases h1:g.es[k].fr=g.es[i].fr
   ·by_cases h2:g.es[k].to=g.es[i].to
    ·have:=ih (k+1) true (by omega)
     rw[Bool.true_or]at this
     rw[decide_eq_true (show kE g.es[k]=kE g.es[i]by rw[kE,h1,h2]),Bool.true_or,←this]
     generalize hek:g.es[k]=a at*
     generalize hei:g.es[i]=c at*
     simp only[Ql]at hx⊢
     simp(disch:=first|assumption|omega|(with_reducible rfl)|(simp only[go_sem];done)|(simp only[go_sem];omega)|fail) only[↓reduceIte,↓AL,Nat.reduceAdd,go_sem,hx,h1,h2,decide_true]
    ·have:=ih (k+1) false (by omega)
     rw[Bool.false_or]at this
     rw[decide_eq_false (show ¬kE g.es[k]=kE g.es[i]from fun e=>h2 (Prod.mk.inj e).2),Bool.false_or,←this]
     generalize hek:g.es[k]=a at*
     generalize hei:g.es[i]=c at*
     simp only[Ql]at hx⊢
     simp(disch:=first|assumption|omega|(with_reducible rfl)|(simp only[go_sem];done)|(simp only[go_sem];omega)|fail) only[↓reduceIte,↓AL,Nat.reduceAdd,go_sem,hx,h1,decide_eq_false h2]
   ·have:=ih (k+1) false (by omega)
    rw[Bool.false_or]at this
    rw[decide_eq_false (show ¬kE g.es[k]=kE g.es[i]from fun e=>h1 (Prod.mk.inj e).1),Bool.false_or,←this]
    generalize hek:g.es[k]=a at*
    generalize hei:g.es[i]=c at*
    simp only[Ql]at hx⊢
    simp(disch:=first|assumption|omega|(with_reducible rfl)|(simp only[go_sem];done)|(simp only[go_sem];omega)|fail) only[↓reduceIte,↓AL,Nat.reduceAdd,go_sem,hx]
def r5 (g:Grf) (i:Nat):Int:=if(g.es.drop i).any (F6 g.n)=true then 50 else if(g.es.map kE).Nodup then 0 else 51
theorem AQ6 {g:Grf} (hl:g.es.length<1000000):∀(n i:Nat) (b:Bool),i+n=g.es.length→b= !decide ((g.es.take i).map kE).Nodup→
 O5 rG (.bool b) (.int .i64 (i:Int)) [vG .sh g]=some (.int .i64 (r5 g i),[]):=by
 intro n
 induction n with
 |zero=>
  intro i b hi hb
  rw[List.take_of_length_le (by omega)]at hb
  rw[r5,List.drop_eq_nil_of_le (by omega),List.any_nil,TW]
  by_cases hn:(g.es.map kE).Nodup
  ·rw[decide_eq_true hn]at hb
   subst hb
   rw[if_pos hn]
   simp(disch:=first|assumption|omega|(with_reducible rfl)|(simp only[go_sem];done)|(simp only[go_sem];omega)|fail) only[↓reduceIte,↓AL,Nat.reduceAdd,go_sem]
   rfl
  ·rw[decide_eq_false hn]at hb
   subst hb
   rw[if_neg hn]
   simp(disch:=first|assumption|omega|(with_reducible rfl)|(simp only[go_sem];done)|(simp only[go_sem];omega)|fail) only[↓reduceIte,↓AL,Nat.reduceAdd,go_sem]
   rfl
 |succ n ih=>
  intro i b hi hb
  have h:i<g.es.length:=by omega
  have hx:=ACr h
  have l2:=AQ5 hl h i 0 b (by omega)
  rw[List.drop_zero]at l2
  have hk:=AHS g.es h
  have ih':=ih (i+1) (b||(g.es.take i).any (fun x=>decide (kE x=kE g.es[i]))) (by omega) (by
   subst hb
   rw[Bool.eq_iff_iff]
   by_cases p:((g.es.take i).map kE).Nodup<;>cases q:(g.es.take i).any (fun x=>decide (kE x=kE g.es[i]))<;>simp_all)
  rw[ih']at l2
  have hbad:F6 g.n g.es[i]=true→r5 g i=50:=fun ho=>by rw[r5,List.drop_eq_getElem_cons h,List.any_cons,ho];rfl
  have hok:F6 g.n g.es[i]=false→r5 g i=r5 g (i+1):=fun ho=>by rw[r5,r5,List.drop_eq_getElem_cons h,List.any_cons,ho];rfl
  generalize r5 g i=r at*
  generalize r5 g (i+1)=r' at*
  generalize he:g.es[i]=e at*
  rw[TW]
  simp only[Ql,c0]at hx l2
  repeat' first|rfl|refine Qi (fun _=> ?_) (fun _=> ?_)|refine Qj (fun _=> ?_) (fun _=> ?_)|simp(disch:=first|assumption|omega|(with_reducible rfl)|(simp only[go_sem];done)|(simp only[go_sem];omega)|fail) only[↓reduceIte,↓AL,Nat.reduceAdd,go_sem,hx,l2]
  all_goals simp only[F6]at hbad hok
  all_goals simp_all
  all_goals omega
theorem AKl {g:Grf} (hl:g.es.length<1000000):Cl 68 [vG .sh g] []=some (.int .i64 (J9 g),[]):=by
 have h:=AQ6 hl g.es.length 0 false (by omega) (by simp)
 simp only[c0]at h
 have e:∀(a:1≤g.n) (b:g.n≤64) (c:g.es.length≤512),J9 g=r5 g 0:=by
  intro a b c
  rw[J9,r5,List.drop_zero]
  by_cases ho:g.es.any (F6 g.n)=true
  ·rw[if_neg (fun h=>by rw[ho]at h;cases h.2.2.2),if_pos ho]
  ·rw[if_pos ⟨a,b,c,by simpa using ho⟩,if_neg ho]
 by_cases h1:g.n<1
 ·rw[J9,if_neg (by omega),VI]
  simp(disch:=first|assumption|omega|(with_reducible rfl)|(simp only[go_sem];done)|(simp only[go_sem];omega)|fail) only[↓reduceIte,↓AL,Nat.reduceAdd,go_sem]
 by_cases h2:64<g.n
 ·rw[J9,if_neg (by omega),VI]
  simp(disch:=first|assumption|omega|(with_reducible rfl)|(simp only[go_sem];done)|(simp only[go_sem];omega)|fail) only[↓reduceIte,↓AL,Nat.reduceAdd,go_sem]
 by_cases h3:512<g.es.length
 ·rw[J9,if_neg (by omega),VI]
  simp(disch:=first|assumption|omega|(with_reducible rfl)|(simp only[go_sem];done)|(simp only[go_sem];omega)|fail) only[↓reduceIte,↓AL,Nat.reduceAdd,go_sem]
 rw[e (by omega) (by omega) (by omega),VI]
 simp(disch:=first|assumption|omega|(with_reducible rfl)|(simp only[go_sem];done)|(simp only[go_sem];omega)|fail) only[↓reduceIte,↓AL,Nat.reduceAdd,go_sem,h]
end
section
open Go AM
theorem AAA {g:Grf} (hl:g.es.length<1000000) (j:Job):Cl 37 [vG .sh g,vJ j] []=some (.bool (NT g j),[]):=by
 have hg:=AKl hl
 rw[AMj]
 repeat' first|rfl|refine Qi (fun _=> ?_) (fun _=> ?_)|refine Qj (fun _=> ?_) (fun _=> ?_)|simp(disch:=first|assumption|omega|(with_reducible rfl)|(simp only[go_sem];done)|(simp only[go_sem];omega)|fail) only[↓reduceIte,↓AL,Nat.reduceAdd,go_sem,hg,UO]
 all_goals (rw[NT];simp_all)
 all_goals omega
def DC (g:Grf) (j:Job) (w:Int):Bool:=NT g j&&decide (1≤w∧w≤64)
theorem ADx {g:Grf} (hl:g.es.length<1000000) (j:Job) (w:Int):Cl 12 [vG .sh g,vJ j,.int .i64 w] []=some (.bool (DC g j w),[]):=by
 have hg:=AAA hl j
 rw[DC,AMY]
 generalize NT g j=b at*
 repeat' first|rfl|refine Qi (fun _=> ?_) (fun _=> ?_)|refine Qj (fun _=> ?_) (fun _=> ?_)|simp(disch:=first|assumption|omega|(with_reducible rfl)|(simp only[go_sem];done)|(simp only[go_sem];omega)|fail) only[↓reduceIte,↓AL,Nat.reduceAdd,go_sem,hg]
 all_goals simp_all
 all_goals omega
end
section
open Go AM
structure Msg where
 fr:Int
 to:Int
 val:Int
 deriving DecidableEq
def Ah (m:Msg):V:= .agg 107 [.int .i64 m.fr,.int .i64 m.to,.int .i64 m.val]
def EC (n:Nat):Int:=((min n 64:Nat):Int)
def Jl (s:List UInt8):Msg×Nat:=
 let a:=AP s 0
 let b:=AP a.2.1 a.2.2
 let c:=AP b.2.1 b.2.2
 (⟨EC a.1,EC b.1,zz c.1⟩,FB c.2.1 c.2.2)
theorem Ea (s:List UInt8) (e:Nat):(AP s e).2.1.length≤s.length:=by
 simp only[AP]
 split
 ·exact Nat.le_refl _
 ·simp only[]
  split
  ·simp
  ·exact Nat.le_refl _
theorem AOY (n:Nat) (hn:n<18446744073709551616):Cl 130 [.int .u64 (n:Int)] []=some (.int .i64 (EC n),[]):=by
 rw[AJQ]
 have e:Lr (.int .u64 (n:Int)) (.int .u64 64)=some (.int .u64 (EC n)):=by
  simp only[Lr,if_true,EC]
  congr 2
  split<;>omega
 simp only[AB3,AB4,e,Option.bind_some]
 rw[BQ IG,wrap_i64 (by simp only[EC];omega) (by simp only[EC];omega),Option.bind_some]
 rfl
theorem ACu {h:List V} (n:Nat) (hn:n<18446744073709551616) (k:V→List V→Option (V×List V)):CG P DZ W (.clo 130 []) [.int .u64 (n:Int)] h k=k (.int .i64 (EC n)) h:=by
 rw[OU k (by kernel_rfl) (by kernel_rfl)]
 have e1:AA h ([V.int .u64 (n:Int)]++[])=[V.int .u64 (n:Int)]:=rfl
 rw[e1,AOY n hn];rfl
theorem IY (s:List UInt8) (e:Nat):(AP s e).1<18446744073709551616:=by
 simp only[AP]
 split
 ·simp
 ·exact Oa s 0 0 (by omega) (by decide)
theorem AKm (a b c:Int):WU P 108 [(0,.int .i64 a),(1,.int .i64 b),(2,.int .i64 c)]=some (Ah ⟨a,b,c⟩):=by
 simp[WU,Xx,Zf,Bc,BJ,K_3,K_2,BK,IG,ACc,cp,ASd,ASc,Ah]
theorem AHT (m:Msg):BJ P 108 (Ah m)=true:=by simp[BJ,Xx,Ah]
theorem AAB (s:List UInt8) (hl:s.length<4611686018427387904):Cl 111 [.str s] []=some (.tup [Ah (Jl s).1,.int .i64 ((Jl s).2:Int)],[]):=by
 have l1:=Ea s 0
 generalize ha:AP s 0=a at l1
 have l2:=Ea a.2.1 a.2.2
 generalize hb:AP a.2.1 a.2.2=b at l2
 generalize hc:AP b.2.1 b.2.2=c
 have na:a.1<18446744073709551616:=by rw[←ha];exact IY _ _
 have nb:b.1<18446744073709551616:=by rw[←hb];exact IY _ _
 have hm:Jl s=(⟨EC a.1,EC b.1,zz c.1⟩,FB c.2.1 c.2.2):=by simp only[Jl,ha,hb,hc]
 rw[hm]
 generalize hz:zero P 108=z
 have e1:∀x,AU [V.str x]=[V.str x]:=fun _=>rfl
 have e2:AU [CP 1]=[CP 1]:=rfl
 have N1:Cl 54 [V.str s] [z]=some (CP 1,[z,BA s 0]):=FU [z] s
 have N2:Cl 55 [CP 1] [z,BA s 0]=some (.int .u64 (a.1:Int),[z,BA a.2.1 a.2.2]):=by
  have:=G8 (h:=[z,BA s 0]) (id:=1) rfl hl;rw[ha]at this;exact this
 have N3:Cl 55 [CP 1] [z,BA a.2.1 a.2.2]=some (.int .u64 (b.1:Int),[z,BA b.2.1 b.2.2]):=by
  have:=G8 (h:=[z,BA a.2.1 a.2.2]) (id:=1) rfl (by omega);rw[hb]at this;exact this
 have N4:Cl 131 [CP 1] [z,BA b.2.1 b.2.2]=some (.int .i64 (zz c.1),[z,BA c.2.1 c.2.2]):=by
  have:=AN5 (h:=[z,BA b.2.1 b.2.2]) (id:=1) rfl (by omega);rw[hc]at this;exact this
 have E1:∀y,Cl 86 [CP 1] [z,BA c.2.1 c.2.2,y]=some (.int .i64 (FB c.2.1 c.2.2:Int),[z,BA c.2.1 c.2.2,y]):=fun y=>Vm rfl
 have s1:D8 P ([z,BA c.2.1 c.2.2]++[z]) 108 (.ref 2 [] 108) (Ah ⟨EC a.1,EC b.1,zz c.1⟩)=some [z,BA c.2.1 c.2.2,Ah ⟨EC a.1,EC b.1,zz c.1⟩]:=CB rfl (AHT _) rfl
 have s2:∀m y,D8 P [z,BA c.2.1 c.2.2,y] 108 (.ref 0 [] 108) (Ah m)=some [Ah m,BA c.2.1 c.2.2,y]:=fun m y=>CB rfl (AHT _) rfl
 rw[AJC]
 simp only[ABZ,ABa,ABb,ABc,e1,hz,List.nil_append,List.length_nil,N1,Option.bind_some,e2,N2,N3,N4,ACu _ na,ACu _ nb,V.noOwn,if_true,AKm,List.length_cons]
 show((D8 P ([z,BA c.2.1 c.2.2]++[z]) 108 (.ref 2 [] 108) (Ah ⟨EC a.1,EC b.1,zz c.1⟩)).bind _)=_
 rw[s1,Option.bind_some]
 generalize hmm:(⟨EC a.1,EC b.1,zz c.1⟩:Msg)=m
 have hid:Bl P DZ W (some (.ref 2 [] 108)) (.clo 86 []) [CP 1] [z,BA c.2.1 c.2.2,Ah m] (fun t22 h_1=>(D8 P h_1 108 (.ref 0 [] 108) (Ah m)).bind fun h_2=>(AY h_2 108 (.ref 0 [] 108)).bind fun c_10=>if(List.all [t22,c_10] V.okE)=true then AQ 0 h_2 (V.tup [c_10,t22])else none)
  =some (.tup [Ah m,.int .i64 (FB c.2.1 c.2.2:Int)],[]):=by
  have aw:(V.away 2 (V.clo 86 [])&&BP 2 [CP 1]&&BP 2 ([z,BA c.2.1 c.2.2,Ah m].set 2 void))=true:=by
   rw[←hz,Zf];rfl
  have aw2:(V.away 2 (V.int .i64 (FB c.2.1 c.2.2:Int))&&BP 2 [z,BA c.2.1 c.2.2,void]&&Nat.blt 2 [z,BA c.2.1 c.2.2,void].length)=true:=by
   rw[←hz,Zf];rfl
  have st:[z,BA c.2.1 c.2.2,Ah m].set 2 void=[z,BA c.2.1 c.2.2,void]:=rfl
  simp only[Bl,List.getElem?_cons_succ,List.getElem?_cons_zero]
  rw[if_pos aw,st,Gj _ (by kernel_rfl) (by kernel_rfl)]
  have e3:AU ([CP 1]++[])=[CP 1]:=rfl
  rw[e3,E1,Option.bind_some]
  simp only
  rw[if_pos aw2]
  have st2:[z,BA c.2.1 c.2.2,void].set 2 (Ah m)=[z,BA c.2.1 c.2.2,Ah m]:=rfl
  rw[st2,s2,Option.bind_some,BG (CS rfl),Option.bind_some]
  rfl
 have l0:AY [z,BA c.2.1 c.2.2,Ah m] 108 (.ref 2 [] 108)=some (Ah m):=BG (CS rfl)
 have sb:Dx (V.ref 2 [] 108) (V.ref 2 [] 108)=true:=rfl
 show(VS (.ref 0 [] 108) (CP 1) (.ref 2 [] 108) [z,BA c.2.1 c.2.2,Ah m] _)=_
 simp only[VS,sb,if_true,l0,Option.bind_some]
 exact hid
end
section
open Go AM
@[go_sem] theorem ASI (m:Msg):(Ah m).pl=true:=(rfl)
@[go_sem] theorem Gt (l:List Msg):G5 (l.map Ah)=true:=Dc (fun _=>rfl) l
@[go_sem] theorem YX (m:Msg):BI 107 (Ah m)=true:=Ji ..
@[go_sem] theorem AHU (l:List Msg):(l.map Ah).all (BI 107)=true:=all_map (fun _=>Ji ..) l
end
section
open Go AM
def IZ (n:Int):Bool:=decide (1125899906842624<n)||decide (n< -1125899906842624)
theorem Ia (n:Int):Cl 121 [.int .i64 n] []=some (.bool (IZ n),[]):=by
 rw[AJK,IZ]
 by_cases h:1125899906842624<n
 ·simp(disch:=first|assumption|omega|(with_reducible rfl)|(simp only[go_sem];done)|(simp only[go_sem];omega)|fail) only[↓reduceIte,↓AL,Nat.reduceAdd,go_sem]
  rw[decide_eq_true h];rfl
 ·simp(disch:=first|assumption|omega|(with_reducible rfl)|(simp only[go_sem];done)|(simp only[go_sem];omega)|fail) only[↓reduceIte,↓AL,Nat.reduceAdd,go_sem]
  rw[decide_eq_false h];rfl
def F7 (x:Vtx):Bool:= !(decide (x.id<0)||decide (64≤x.id)||IZ x.val||IZ x.inn||(!x.has&&decide (x.inn≠0)))
theorem ADy (x:Vtx):Cl 96 [FZ x] []=some (.int .i64 (if F7 x=true then 0 else 100),[]):=by
 by_cases h1:x.id<0
 ·rw[show(if F7 x=true then(0:Int)else 100)=100 from if_neg (by simp[F7,h1])]
  rw[Jy]
  simp only[FZ]
  simp(disch:=first|assumption|omega|(with_reducible rfl)|(simp only[go_sem];done)|(simp only[go_sem];omega)|fail) only[↓reduceIte,↓AL,Nat.reduceAdd,go_sem]
 by_cases h2:64≤x.id
 ·rw[show(if F7 x=true then(0:Int)else 100)=100 from if_neg (by simp[F7,h2])]
  rw[Jy]
  simp only[FZ]
  simp(disch:=first|assumption|omega|(with_reducible rfl)|(simp only[go_sem];done)|(simp only[go_sem];omega)|fail) only[↓reduceIte,↓AL,Nat.reduceAdd,go_sem]
 by_cases h3:IZ x.val=true
 ·rw[show(if F7 x=true then(0:Int)else 100)=100 from if_neg (by simp[F7,h3])]
  rw[Jy]
  simp only[FZ]
  simp(disch:=first|assumption|omega|(with_reducible rfl)|(simp only[go_sem];done)|(simp only[go_sem];omega)|fail) only[↓reduceIte,↓AL,Nat.reduceAdd,go_sem,Ia,h3]
 by_cases h4:IZ x.inn=true
 ·rw[show(if F7 x=true then(0:Int)else 100)=100 from if_neg (by simp[F7,h4])]
  rw[Jy]
  simp only[FZ]
  simp(disch:=first|assumption|omega|(with_reducible rfl)|(simp only[go_sem];done)|(simp only[go_sem];omega)|fail) only[↓reduceIte,↓AL,Nat.reduceAdd,go_sem,Ia,h3,h4]
 simp only[Bool.not_eq_true]at h3 h4
 cases h5:x.has
 ·by_cases h6:x.inn=0
  ·rw[show(if F7 x=true then(0:Int)else 100)=0 from if_pos (by simp only[F7,h3,h4,h5,h6,decide_eq_false h1,decide_eq_false h2];rfl)]
   rw[Jy]
   simp only[FZ]
   simp(disch:=first|assumption|omega|(with_reducible rfl)|(simp only[go_sem];done)|(simp only[go_sem];omega)|fail) only[↓reduceIte,↓AL,Nat.reduceAdd,go_sem,Ia,h3,h4,h5]
  ·rw[show(if F7 x=true then(0:Int)else 100)=100 from if_neg (by simp[F7,h5,h6])]
   rw[Jy]
   simp only[FZ]
   simp(disch:=first|assumption|omega|(with_reducible rfl)|(simp only[go_sem];done)|(simp only[go_sem];omega)|fail) only[↓reduceIte,↓AL,Nat.reduceAdd,go_sem,Ia,h3,h4,h5]
 ·rw[show(if F7 x=true then(0:Int)else 100)=0 from if_pos (by simp[F7,h1,h2,h3,h4,h5])]
  rw[Jy]
  simp only[FZ]
  simp(disch:=first|assumption|omega|(with_reducible rfl)|(simp only[go_sem];done)|(simp only[go_sem];omega)|fail) only[↓reduceIte,↓AL,Nat.reduceAdd,go_sem,Ia,h3,h4,h5]
def He (b:Bool):Nat:=if b=true then 1 else 0
theorem AOZ (b:Bool):Cl 98 [.bool b] []=some (.int .u64 (He b:Int),[]):=by
 rw[ANQ]
 cases b<;>rfl
def vtxB (x:Vtx):List UInt8:=if F7 x=true then BR x.id.toNat++BR (Lm x.val)++BR (He x.act)++BR (He x.has)++BR (Lm x.inn)else[]
theorem YZ {a:V} {f:Fl} {l:List UInt8} {n:Int} (hf:OK f) (h1:I64 n) (hl:l.length≤2000000000):Cl 97 [Dy 1,.int .i64 n] [a,Bg f l]=some (.tup [],[a,Bg .own (l++BR (Lm n))]):=UG (h:=[a,Bg f l]) (id:=1) rfl hf h1.1 h1.2 (by omega)
theorem ACv (b:Bool):(He b:Int)<18446744073709551616:=by cases b<;>decide
theorem AHV (x:Vtx):(vtxB x).length≤50:=by
 have a:=Aq 10 x.id.toNat;have b:=Aq 10 (Lm x.val);have c:=Aq 10 (Lm x.inn)
 have d:=Aq 10 (He x.act);have e:=Aq 10 (He x.has)
 simp only[vtxB];split
 ·simp only[List.length_append,BR];omega
 ·simp
theorem AKn {x:Vtx} (hx:VOk x):Cl 67 [FZ x] []=some (.str (vtxB x),[]):=by
 obtain⟨x1,x2,x3⟩:=hx
 have hc:=ADy x
 by_cases h:F7 x=true
 ·have h0:0≤x.id:=by simp only[F7,Bool.not_eq_true',Bool.or_eq_false_iff,decide_eq_false_iff_not]at h;omega
  have hlt:x.id<18446744073709551616:=by have:=x1.2;omega
  rw[if_pos h]at hc
  rw[vtxB,if_pos h,AFb]
  have a:=Aq 10 x.id.toNat;have b:=Aq 10 (Lm x.val);have c:=Aq 10 (Lm x.inn)
  have d:=Aq 10 (He x.act);have e:=Aq 10 (He x.has)
  generalize ha:BR x.id.toNat=n1
  generalize hb:BR (Lm x.val)=n2
  generalize hd:BR (He x.act)=n3
  generalize he:BR (He x.has)=n4
  have s1:∀w:V,Cl 46 [Dy 1,.int .u64 x.id] [w,Bg .nil []]=_:=fun w=>Qo (a:=w) (f:= .nil) (l:=[]) AOQ h0 hlt (by simp)
  rw[ha,List.nil_append]at s1
  have t1:n1.length≤10:=ha▸a
  have s2:∀w:V,Cl 97 [Dy 1,.int .i64 x.val] [w,Bg .own n1]=_:=fun w=>YZ (a:=w) V5 x2 (by omega)
  rw[hb]at s2
  have t2:n2.length≤10:=hb▸b
  have s3:∀w:V,Cl 46 [Dy 1,.int .u64 (He x.act:Int)] [w,Bg .own (n1++n2)]=_:=fun w=>Qo (a:=w) V5 (by omega) (ACv _) (by simp only[List.length_append];omega)
  rw[Int.toNat_natCast,hd]at s3
  have t3:n3.length≤10:=hd▸d
  have s4:∀w:V,Cl 46 [Dy 1,.int .u64 (He x.has:Int)] [w,Bg .own (n1++n2++n3)]=_:=fun w=>Qo (a:=w) V5 (by omega) (ACv _) (by simp only[List.length_append];omega)
  rw[Int.toNat_natCast,he]at s4
  have t4:n4.length≤10:=he▸e
  have s5:∀w:V,Cl 97 [Dy 1,.int .i64 x.inn] [w,Bg .own (n1++n2++n3++n4)]=_:=fun w=>YZ (a:=w) V5 x3 (by simp only[List.length_append];omega)
  have hb1:∀b,Cl 98 [.bool b] []=_:=AOZ
  simp only[List.append_assoc]at s3 s4 s5⊢
  simp only[FZ]at hc⊢
  simp(disch:=first|assumption|omega|(with_reducible rfl)|(simp only[go_sem];done)|(simp only[go_sem];omega)|fail) only[↓reduceIte,↓AL,Nat.reduceAdd,go_sem,hc,AHM,s1,s2,s3,s4,s5,hb1,ADs]
 ·rw[if_neg h]at hc
  rw[vtxB,if_neg h,AFb]
  simp only[FZ]at hc⊢
  simp(disch:=first|assumption|omega|(with_reducible rfl)|(simp only[go_sem];done)|(simp only[go_sem];omega)|fail) only[↓reduceIte,↓AL,Nat.reduceAdd,go_sem,hc]
abbrev AHW (n:Nat):V:= .win 0 [] 0 n 9
abbrev ADz (d:List (List UInt8)):V:= .row 9 (d.map V.str)
theorem AD0 (n:Nat) (f:Fl) (l:List Vtx):V.under n (.lst 81 f (l.map FZ))=true:=by
 have:=(V.PF (.agg 0 (l.map FZ)) (AKX l)).under n
 cases f<;>first|rfl|exact this
theorem AHX {l:List Vtx} (hl:∀x∈l,VOk x) (hn:l.length≤1000000) (f:Fl):∀(n i:Nat) (d:List (List UInt8)),i+n=l.length→d.length=l.length→
 VA (AHW l.length) (.lst 81 f (l.map FZ)) (.int .i64 (l.length:Int)) (.int .i64 (i:Int)) [ADz d]=some (.lst 9 .sh ((d.take i++(l.drop i).map vtxB).map V.str),[]):=by
 intro n
 induction n with
 |zero=>
  intro i d hi hd
  have e1:l.drop i=[]:=List.drop_eq_nil_of_le (by omega)
  rw[e1,List.map_nil,List.append_nil,List.take_of_length_le (by omega),TP]
  have c:Ad [ADz d] (AHW l.length)=some (d.map V.str):=by
   simp only[Ad,rd,List.getElem?_cons_zero,Option.bind_some,V.at,V.items,List.drop_zero]
   simp only[V.items,Option.map_some,Option.bind_some]
   rw[←hd];exact congrArg some (List.take_of_length_le (by simp))
  have fin:AQ 0 [ADz d] (AHW l.length)=some (.lst 9 .sh (d.map V.str),[]):=by
   have cl:AV (d.map V.str)=true:=by
    clear c hd;induction d with
    |nil=>rfl
    |cons x t ih=>simp only[List.map_cons,AV,ih];rfl
   have nl:AU (d.map V.str)=d.map V.str:=by
    clear c hd cl;induction d with
    |nil=>rfl
    |cons x t ih=>simp only[List.map_cons,AU,ih];rfl
   simp only[AQ,V.unmut,c,cl,nl,if_true]
   rfl
  simp(disch:=first|assumption|omega|(with_reducible rfl)|(simp only[go_sem];done)|(simp only[go_sem];omega)|fail) only[↓reduceIte,↓AL,Nat.reduceAdd,go_sem,fin]
 |succ n ih=>
  intro i d hi hd
  have h:i<l.length:=by omega
  have hx:=hl _ (List.getElem_mem h)
  have hr:=AKn hx
  have:=ih (i+1) (d.set i (vtxB l[i])) (by omega) (by simp[hd])
  have e:(d.set i (vtxB l[i])).take (i+1)++(l.drop (i+1)).map vtxB=d.take i++(l.drop i).map vtxB:=by
   rw[List.drop_eq_getElem_cons h,List.map_cons,List.take_add_one,List.take_set_of_le (by omega),List.getElem?_set_self (by omega)]
   simp
  rw[e]at this
  rw[←this,TP]
  have ix:ET 9 (V.weak (AHW l.length)) (.int .i64 (i:Int))=some (.ref 0 [i] 9):=by
   simp only[V.weak,ET,inside]
   simp;omega
  have hu:=AD0 1 f l
  rw[ADz,ADz,List.map_set]
  simp(disch:=first|assumption|omega|(with_reducible rfl)|(simp only[go_sem];done)|(simp only[go_sem];omega)|fail) only[↓reduceIte,↓AL,Nat.reduceAdd,go_sem,AL5 h,hr,ix,hu]
theorem Ya {l:List Vtx} (hl:∀x∈l,VOk x) (hn:l.length≤1000000) (f:Fl):Cl 36 [.lst 81 f (l.map FZ)] []=some (.lst 9 .sh ((l.map vtxB).map V.str),[]):=by
 have h:=AHX hl hn f l.length 0 (List.replicate l.length []) (by omega) (by simp)
 rw[List.take_zero,List.nil_append,List.drop_zero]at h
 simp only[c0]at h
 have mk:mkL 9 (.str []) (.int .i64 (l.length:Int)) (.int .i64 (l.length:Int))=some (.lst 9 .own (List.replicate l.length (.str []))):=by
  simp only[mkL]
  rw[if_pos ⟨by omega,by omega,by omega⟩];rfl
 have tb:DV [] (.lst 9 .own (List.replicate l.length (.str [])))=some (AHW l.length,[ADz (List.replicate l.length [])]):=by
  simp[DV]
 rw[←h,AMi]
 simp(disch:=first|assumption|omega|(with_reducible rfl)|(simp only[go_sem];done)|(simp only[go_sem];omega)|fail) only[↓reduceIte,↓AL,Nat.reduceAdd,go_sem,mk,tb]
theorem AHY (l:List Vtx):Short (l.map vtxB):=by
 intro s hs
 obtain⟨x,_,rfl⟩:=List.mem_map.1 hs
 have:=AHV x;omega
def vrootB (l:List Vtx):List UInt8:=YT (l.map vtxB)
theorem AHZ {l:List Vtx} (hl:∀x∈l,VOk x) (hn:l.length≤1000000) (f:Fl):Cl 35 [.lst 81 f (l.map FZ)] []=some (Ar (vrootB l),[]):=by
 have h:=Ya hl hn
 rw[AMh,KA]
 simp(disch:=first|assumption|omega|(with_reducible rfl)|(simp only[go_sem];done)|(simp only[go_sem];omega)|fail) only[↓reduceIte,↓AL,Nat.reduceAdd,go_sem,h,AKe (l:=l.map vtxB) (by simp;omega) (AHY l)]
 rfl
end
section
open Go AM
theorem Hf {f:FuncId} {id:Nat} {p:List Nat} {t:TypeId} {vs vs' h:List V} {v r:V} (he:DZ.ext f=false) (hp:DZ.pure f=true) (hh:h[id]?=some v) (haw:BP id (h.set id void)=true)
 (hv:BP id vs=true) (hrf:AA (h.set id void) vs=vs') (hr:r.away id=true) (e:Cl f vs' []=some (r,[])) (k:V→List V→Rv) (hs:(DZ.seq f).1=0:=by kernel_rfl):
 Bl P DZ W (some (.ref id p t)) (.clo f []) vs h k=k r h:=by
 have hlt:=IJ hh
 simp only[Bl,hh,haw,hv]
 rw[if_pos (show(V.away id (.clo f [])&&true&&true)=true from rfl),OU _ he hp hs,List.append_nil,hrf]
 refine(AB e _).trans ?_
 rw[if_pos (by rw[hr,haw,List.length_set];simp only[Bool.true_and];exact Nat.ble_eq_true_of_le hlt),List.set_set]
 congr 1
 exact(List.ext_getElem? fun i=>by
  by_cases hi:i=id
  ·subst hi;rw[List.getElem?_set_self hlt,hh]
  ·rw[List.getElem?_set_ne (Ne.symm hi)])
theorem Ey {h:List V} {id i:Nat} {u e t:TypeId} {f:Fl} {fs xs:List V} (hh:h[id]?=some (.agg u fs)) (hf:fs[i]?=some (.lst e f xs)):BN h t (.ref id [i] t)=some (.lst e f xs,h.set id (.agg u (fs.set i (.lst e f.wk xs)))):=by
 simp only[BN,if_true,rd,wr,hh,Option.bind_some,V.at,V.upd,hf,ADo,Option.map_some]
@[go_sem] theorem ATW (t u:TypeId) (xs ys:List V):DY true [.lst t .own xs,.lst u .own ys]=true:=(rfl)
@[go_sem] theorem ATX (t u:TypeId) (xs ys:List V):DY true [.lst t .nil xs,.lst u .own ys]=true:=(rfl)
structure Bk where
 step:Int
 gone:List Bool
 roots:List (List UInt8)
 known:List (List (List UInt8))
 sent:List Msg
 deriving DecidableEq
abbrev JW:TypeId:=32
def sS (l:List (List UInt8)):V:= .lst 9 .sh (l.map V.str)
abbrev H6 (f0 f1 f2 f3:Fl) (b:Bk):V:= .agg JW [.int .i64 b.step,.lst 4 f0 (b.gone.map V.bool),.lst 55 f1 (b.roots.map Ar),.lst 58 f2 (b.known.map sS),.lst 108 f3 (b.sent.map Ah)]
abbrev vB (b:Bk):V:=H6 .sh .sh .sh .sh b
def zB:Bk:=⟨0,[],[],[],[]⟩
@[go_sem] theorem ASJ (l:List (List UInt8)):(sS l).weak=sS l:=(rfl)
@[go_sem] theorem AHa (l:List (List UInt8)):(sS l).pl=true:=IX l
@[go_sem] theorem Qr (l:List (List (List UInt8))):G5 (l.map sS)=true:=Dc AHa l
@[go_sem] theorem Eb (l:List Bool):G5 (l.map V.bool)=true:=Dc (fun _=>rfl) l
@[go_sem] theorem AOa (l:List (List UInt8)):IE 9 (sS l)=true:=(rfl)
@[go_sem] theorem ATY (l:List (List (List UInt8))):(l.map sS).all (IE 9)=true:=all_map AOa l
@[go_sem] theorem UQ (l:List Bool):(l.map V.bool).all AM.tyB=true:=all_map (fun _=>rfl) l
@[go_sem] theorem Ec (l:List (List UInt8)):G5 (l.map Ar)=true:=Dc ML l
def Dv (g:Grf) (j:Job) (N w:Nat):List Vtx:=(ofL g.n.toNat N w).map fun(v:Nat)=>firstX j (v:Int)
def Bd (g:Grf) (j:Job) (N:Nat):Bk:=⟨0,List.replicate N false,(List.range N).map fun w=>vrootB (Dv g j N w),(List.range N).map fun w=>(Dv g j N w).map vtxB,[]⟩
theorem AD1 (j:Job) {v:Nat} (hv:v<64):VOk (firstX j (v:Int)):=by
 have: -9223372036854775808≤(37*(v:Int)+11).tmod 64∧(37*(v:Int)+11).tmod 64<9223372036854775808:=by
  rw[Int.tmod_eq_emod_of_nonneg (by omega)];omega
 simp only[VOk,firstX,I64]
 repeat' split
 all_goals (simp only[];omega)
theorem ACw {g:Grf} (hg:g.n≤64) (j:Job) (N w:Nat):∀x∈Dv g j N w,VOk x:=by
 intro x hx
 obtain⟨v,hv,rfl⟩:=List.mem_map.1 hx
 have:=Z9 hv
 exact AD1 j (by omega)
theorem Qs (g:Grf) (j:Job) (N w:Nat):(Dv g j N w).length≤g.n.toNat:=by
 rw[Dv,List.length_map];exact HY _ _ _
theorem MN (l:List Vtx):(vrootB l).length=32:=UN _ _
attribute [local irreducible] vrootB vtxB firstX
def Ib (g:Grf) (j:Job) (N w:Nat):Bk:=⟨0,List.replicate N false,(List.range w).map fun w=>vrootB (Dv g j N w),(List.range w).map fun w=>(Dv g j N w).map vtxB,[]⟩
theorem Qu (h:List V) (f:Fl) (l:List Vtx) (hf:f= .sh∨f= .nil):AA h [.lst 81 f (l.map FZ)]=[.lst 81 .sh (l.map FZ)]:=by
 rcases hf with rfl|rfl<;>rfl
theorem AHb {g:Grf} (hg:g.n≤64) (h1:1≤g.n) {j:Job} {N w:Nat} (hN:N≤64) (hw:w<N) {f f1 f2:Fl} (hf:f= .own∨f= .nil) (hf1:f1= .own∨f1= .nil) (hf2:f2= .own∨f2= .nil) (a z:V) (ha:a.away 3=true) (hz:z.away 3=true) {L:List Nat} (i m0:Nat) (hL:L.length=i):
 Ox (.int .i64 (N:Int)) (.ref 0 [] 24) (.ref 1 [] 26) (.ref 2 [] 33) (.ref 3 [] 33) (.lst 81 f ((Dv g j N w).map FZ)) (.int .i64 (N:Int)) (.int .i64 (w:Int)) (WW .sh L) (.int .i64 (i:Int)) (.int .i64 (i:Int)) m0 [a,vJ j,z,H6 .sh f1 f2 .nil (Ib g j N w)]=
  Ls (.int .i64 (N:Int)) (.ref 0 [] 24) (.ref 1 [] 26) (.ref 2 [] 33) (.ref 3 [] 33) (.int .i64 (N:Int)) (.int .i64 ((w+1:Nat):Int)) [a,vJ j,z,H6 .sh .own .own .nil (Ib g j N (w+1))]:=by
 have hl:=Qs g j N w
 have ok:=ACw hg j N w
 have hR:=AHZ ok (by omega) .sh
 have hW:=Ya ok (by omega) .sh
 have e1:(Ib g j N (w+1)).roots=(Ib g j N w).roots++[vrootB (Dv g j N w)]:=by simp[Ib,List.range_succ]
 have e2:(Ib g j N (w+1)).known=(Ib g j N w).known++[(Dv g j N w).map vtxB]:=by simp[Ib,List.range_succ]
 have e3:(Ib g j N (w+1)).gone=(Ib g j N w).gone:=rfl
 have e4:(Ib g j N (w+1)).step=(Ib g j N w).step:=rfl
 have e5:(Ib g j N (w+1)).sent=(Ib g j N w).sent:=rfl
 have l1:(Ib g j N w).roots.length=w:=by simp[Ib]
 have l2:(Ib g j N w).known.length=w:=by simp[Ib]
 have l3:=MN (Dv g j N w)
 rw[show H6 .sh .own .own .nil (Ib g j N (w+1))= .agg JW [.int .i64 (Ib g j N w).step,.lst 4 .sh ((Ib g j N w).gone.map V.bool),.lst 55 .own (((Ib g j N w).roots++[vrootB (Dv g j N w)]).map Ar),.lst 58 .own (((Ib g j N w).known++[(Dv g j N w).map vtxB]).map sS),.lst 108 .nil ((Ib g j N w).sent.map Ah)]from by rw[←e1,←e2,←e3,←e4,←e5]]
 generalize Ib g j N w=b at*
 generalize hrt:vrootB (Dv g j N w)=rt at*
 generalize hkn:(Dv g j N w).map vtxB=kn at*
 generalize Dv g j N w=xs at*
 have hfw:f.wk= .sh∨f.wk= .nil:=by rcases hf with rfl|rfl<;>simp[Fl.wk]
 have aw:∀v:V,BP 3 ([a,vJ j,z,v].set 3 void)=true:=by
  intro v
  simp only[List.set_cons_succ,List.set_cons_zero,BP,ha,hz];rfl
 have avx:∀f:Fl,f= .sh∨f= .nil→BP 3 [.lst 81 f (xs.map FZ)]=true:=by rintro f (rfl|rfl)<;>rfl
 have c1:∀(v:V) (k:V→List V→Rv),Bl P DZ W (some (.ref 3 [] 33)) (.clo 35 []) [.lst 81 f.wk (xs.map FZ)] [a,vJ j,z,v] k=k (Ar rt) [a,vJ j,z,v]:=
  fun v k=>Hf (by kernel_rfl) (by kernel_rfl) (v:=v) rfl (aw v) (avx _ hfw) (Qu _ _ _ hfw) ((V.PF _ (ML _)).away 3) hR k
 have c2:∀(v:V) (k:V→List V→Rv),Bl P DZ W (some (.ref 3 [] 33)) (.clo 36 []) [.lst 81 f.wk (xs.map FZ)] [a,vJ j,z,v] k=k (sS kn) [a,vJ j,z,v]:=
  fun v k=>Hf (by kernel_rfl) (by kernel_rfl) (v:=v) rfl (aw v) (avx _ hfw) (Qu _ _ _ hfw) ((V.PF _ (AHa _)).away 3) hW k
 have t1:BN [a,vJ j,z,H6 .sh f1 f2 .nil b] 29 (.ref 3 [2] 29)=some (.lst 55 f1 (b.roots.map Ar),[a,vJ j,z,H6 .sh f1.wk f2 .nil b]):=Ey (h:=[a,vJ j,z,H6 .sh f1 f2 .nil b]) (id:=3) rfl rfl
 have t2:BN [a,vJ j,z,H6 .sh f1.wk f2 .nil b] 30 (.ref 3 [3] 30)=some (.lst 58 f2 (b.known.map sS),[a,vJ j,z,H6 .sh f1.wk f2.wk .nil b]):=Ey (h:=[a,vJ j,z,H6 .sh f1.wk f2 .nil b]) (id:=3) rfl rfl
 rw[TA]
 simp only[H6]at t1 t2
 have sb2:Dx (.ref 3 [] 33) (.ref 3 [2] 29)=true:=rfl
 have sb3:Dx (.ref 3 [] 33) (.ref 3 [3] 30)=true:=rfl
 have hm:∀x:List UInt8,(b.roots++[x]).map Ar=b.roots.map Ar++[Ar x]:=by simp
 have hm2:∀x,(b.known++[x]).map sS=b.known.map sS++[sS x]:=by simp
 rw[hm,hm2]
 rcases hf1 with rfl|rfl<;>rcases hf2 with rfl|rfl
 all_goals simp only[EM,EN]at t1 t2
 all_goals simp(disch:=first|assumption|omega|(with_reducible rfl)|(simp only[go_sem];done)|(simp only[go_sem];omega)|fail) only[↓reduceIte,↓AL,Nat.reduceAdd,go_sem,c1,c2,t1,t2,sb2,sb3]
theorem AKo {g:Grf} (hg:g.n≤64) (h1:1≤g.n) {j:Job} {N w:Nat} (hN:N≤64) (hw:w<N) {f1 f2:Fl} (hf1:f1= .own∨f1= .nil) (hf2:f2= .own∨f2= .nil) (a z:V) (ha:a.away 3=true) (hz:z.away 3=true) (m0:Nat):∀(n i:Nat) (f:Fl),(f= .own∨f= .nil)→i+n=(ofL g.n.toNat N w).length→
 Ox (.int .i64 (N:Int)) (.ref 0 [] 24) (.ref 1 [] 26) (.ref 2 [] 33) (.ref 3 [] 33) (.lst 81 f (((ofL g.n.toNat N w).take i).map fun(v:Nat)=>FZ (firstX j (v:Int)))) (.int .i64 (N:Int)) (.int .i64 (w:Int)) (WW .sh (ofL g.n.toNat N w)) (.int .i64 ((ofL g.n.toNat N w).length:Int)) (.int .i64 (i:Int)) m0 [a,vJ j,z,H6 .sh f1 f2 .nil (Ib g j N w)]=
  Ls (.int .i64 (N:Int)) (.ref 0 [] 24) (.ref 1 [] 26) (.ref 2 [] 33) (.ref 3 [] 33) (.int .i64 (N:Int)) (.int .i64 ((w+1:Nat):Int)) [a,vJ j,z,H6 .sh .own .own .nil (Ib g j N (w+1))]:=by
 intro n
 induction n with
 |zero=>
  intro i f hf hi
  have h:=AHb hg h1 hN hw hf hf1 hf2 a z ha hz (L:=ofL g.n.toNat N w) i m0 (j:=j) (by omega)
  rw[show(ofL g.n.toNat N w).length=i by omega,List.take_of_length_le (by omega)]
  rw[Dv,List.map_map]at h
  exact h
 |succ n ih=>
  intro i f hf hi
  have hlen:=HY g.n.toNat N w
  have hl:i<(ofL g.n.toNat N w).length:=by omega
  have h2:=Z9 (List.getElem_mem hl)
  have hx:=AHP j (v:=((ofL g.n.toNat N w)[i]:Nat)) (by omega) (by omega)
  have hc:∀(k:V×List V→Rv),((Cl 34 [vJ j,.int .i64 ((ofL g.n.toNat N w)[i]:Int)] []).bind k)=k (FZ (firstX j ((ofL g.n.toNat N w)[i]:Int)),[]):=fun k=>AB hx k
  have ih':=ih (i+1) .own (Or.inl rfl) (by omega)
  have ix:ET 3 (WW .sh (ofL g.n.toNat N w)) (.int .i64 (i:Int))=some (.rop 3 (.int .i64 ((ofL g.n.toNat N w)[i]:Int))):=by
   rw[WW,Qh,List.getElem?_map,List.getElem?_eq_getElem hl];rfl
  rw[←List.take_append_getElem hl,List.map_append]at ih'
  generalize hX:(ofL g.n.toNat N w)[i]=x at*
  generalize hF:firstX j (x:Int)=y at*
  generalize H6 .sh f1 f2 .nil (Ib g j N w)=b at*
  generalize H6 .sh .own .own .nil (Ib g j N (w+1))=b2 at*
  generalize ofL g.n.toNat N w=L at*
  simp only[List.map_cons,List.map_nil,hF]at ih'
  rw[←ih',TA]
  rcases hf with rfl|rfl
  all_goals simp(disch:=first|assumption|omega|(with_reducible rfl)|(simp only[go_sem];done)|(simp only[go_sem];omega)|fail) only[↓reduceIte,↓AL,Nat.reduceAdd,go_sem,hc,ix,hF]
theorem AKp (g:Grf) (j:Job) (N:Nat):Bd g j N=Ib g j N N:=rfl
theorem AKq {g:Grf} (hg:g.n≤64) (h1:1≤g.n) {j:Job} {N:Nat} (hN:N≤64) (hN1:1≤N):∀(n w:Nat) (f1 f2:Fl),(f1= .own∨f1= .nil)→(f2= .own∨f2= .nil)→w+n=N→
 Ls (.int .i64 (N:Int)) (.ref 0 [] 24) (.ref 1 [] 26) (.ref 2 [] 33) (.ref 3 [] 33) (.int .i64 (N:Int)) (.int .i64 (w:Int)) [vG .sh g,vJ j,H6 .nil .nil .nil .nil zB,H6 .sh f1 f2 .nil (Ib g j N w)]=some (.tup [vB (Bd g j N),.int .i64 0],[]):=by
 intro n
 induction n with
 |zero=>
  intro w f1 f2 hf1 hf2 hi
  obtain rfl:w=N:=by omega
  rw[AKp,TB]
  generalize Ib g j w w=b at*
  rcases hf1 with rfl|rfl<;>rcases hf2 with rfl|rfl
  all_goals simp(disch:=first|assumption|omega|(with_reducible rfl)|(simp only[go_sem];done)|(simp only[go_sem];omega)|fail) only[↓reduceIte,↓AL,Nat.reduceAdd,go_sem]
  all_goals rfl
 |succ n ih=>
  intro w f1 f2 hf1 hf2 hi
  have hw:w<N:=by omega
  have hL:=AKo hg h1 (j:=j) hN hw hf1 hf2 (vG .sh g) (H6 .nil .nil .nil .nil zB) rfl rfl 4 (ofL g.n.toNat N w).length 0 .nil (Or.inr rfl) (by omega)
  have hof:=AOV (n:=g.n.toNat) (N:=N) (w:=w) (by omega) (by omega) (by omega) hN hw
  have hlen:=HY g.n.toNat N w
  rw[show(g.n.toNat:Int)=g.n by omega]at hof
  rw[←ih (w+1) .own .own (Or.inl rfl) (Or.inl rfl) (by omega),←hL,TB]
  clear ih hL
  generalize H6 .sh f1 f2 .nil (Ib g j N w)=b at*
  generalize H6 .sh .own .own .nil (Ib g j N (w+1))=b2 at*
  generalize ofL g.n.toNat N w=L at*
  simp(disch:=first|assumption|omega|(with_reducible rfl)|(simp only[go_sem];done)|(simp only[go_sem];omega)|fail) only[↓reduceIte,↓AL,Nat.reduceAdd,go_sem,hof]
  rfl
theorem Og {g:Grf} {j:Job} (hj:NT g j=true):1≤g.n∧g.n≤64:=by
 have hg:J9 g=0:=(of_decide_eq_true hj).1
 rw[J9]at hg
 by_cases h:1≤g.n∧g.n≤64∧g.es.length≤512∧g.es.any (F6 g.n)=false
 ·exact⟨h.1,h.2.1⟩
 ·rw[if_neg h]at hg;omega
theorem MO {g:Grf} (hl:g.es.length<1000000) (j:Job) (w:Int):Cl 10 [vG .sh g,vJ j,.int .i64 w] []=some (if DC g j w=true then .tup [vB (Bd g j w.toNat),.int .i64 0]else .tup [vB zB,.int .i64 170],[]):=by
 have hc:=ADu hl j
 by_cases hb:DC g j w=true
 ·simp only[DC,Bool.and_eq_true,decide_eq_true_eq]at hb
  obtain⟨hj,h1,h2⟩:=hb
  have hg':=Og hj
  obtain⟨N,rfl⟩:=Int.eq_ofNat_of_zero_le (show 0≤w by omega)
  have h0:=AKq hg'.2 hg'.1 (j:=j) (N:=N) (by omega) (by omega) N 0 .nil .nil (Or.inr rfl) (Or.inr rfl) (by omega)
  rw[if_pos (by simp only[DC,hj,Bool.true_and,decide_eq_true_eq];omega)]
  rw[if_pos hj]at hc
  rw[AE6]
  simp only[Int.toNat_natCast]
  rw[←h0]
  generalize Bd g j N=b at*
  have hu:Ib g j N 0=⟨0,List.replicate N false,[],[],[]⟩:=rfl
  rw[hu]
  have mk:mkL 4 (.bool false) (.int .i64 (N:Int)) (.int .i64 (N:Int))=some (.lst 4 .own ((List.replicate N false).map V.bool)):=by
   rw[List.map_replicate]
   simp only[mkL]
   rw[if_pos (by omega),Int.toNat_natCast]
  simp(disch:=first|assumption|omega|(with_reducible rfl)|(simp only[go_sem];done)|(simp only[go_sem];omega)|fail) only[↓reduceIte,↓AL,Nat.reduceAdd,go_sem,hc,mk]
  rfl
 ·rw[if_neg hb,AE6]
  simp only[DC]at hb
  generalize NT g j=q at*
  repeat' first|rfl|refine Qi (fun _=> ?_) (fun _=> ?_)|refine Qj (fun _=> ?_) (fun _=> ?_)|simp(disch:=first|assumption|omega|(with_reducible rfl)|(simp only[go_sem];done)|(simp only[go_sem];omega)|fail) only[↓reduceIte,↓AL,Nat.reduceAdd,go_sem,hc]
  all_goals simp_all
  all_goals omega
end
section
open Go AM
theorem AD2 (x:Int):Cl 58 [.int .i64 x] []=some (.bool (IZ x),[]):=by
 rw[AMx,IZ]
 repeat' first|rfl|refine Qi (fun _=> ?_) (fun _=> ?_)|refine Qj (fun _=> ?_) (fun _=> ?_)|simp(disch:=first|assumption|omega|(with_reducible rfl)|(simp only[go_sem];done)|(simp only[go_sem];omega)|fail) only[↓reduceIte,↓AL,Nat.reduceAdd,go_sem]
 all_goals simp_all
 all_goals (intros;omega)
theorem ACx (b:Bool):Cl 104 [.bool b] []=some (.str (BR (He b)),[]):=by
 rw[AI6]
 cases b<;>rfl
theorem ACy {n:Int} (h:I64 n):Cl 103 [.int .i64 n] []=some (.str (BR (Lm n)),[]):=by
 obtain⟨ha,hb⟩:=h
 by_cases h0:0≤n
 ·obtain⟨m,rfl⟩:=Int.eq_ofNat_of_zero_le h0
  have e:Lm (m:Int)=2*m:=by rw[Lm,if_pos h0];omega
  have c:Hz .u64 (.int .i64 (m:Int))=some (.int .u64 (m:Int)):=cvI_u64 (by omega) (by omega)
  have ml:AO .mul (.int .u64 2) (.int .u64 (m:Int))=some (.int .u64 ((2*m:Nat):Int)):=AKi (a:=2) (c:=m) (by omega)
  have r:=JH (n:=2*m) (by omega)
  rw[e,ABA]
  generalize BR (2*m)=x at*
  generalize 2*m=y at*
  simp(disch:=first|assumption|omega|(with_reducible rfl)|(simp only[go_sem];done)|(simp only[go_sem];omega)|fail) only[↓reduceIte,↓AL,Nat.reduceAdd,go_sem,c,ml,r]
 ·obtain⟨m,hm⟩:=Int.eq_ofNat_of_zero_le (show 0≤ -1-n by omega)
  have e:Lm n=2*m+1:=by rw[Lm,if_neg h0];omega
  have sb:AO .sub (.int .i64 (-1)) (.int .i64 n)=some (.int .i64 (m:Int)):=by rw[Jc,wrap_i64 (by omega) (by omega),hm]
  have c:Hz .u64 (.int .i64 (m:Int))=some (.int .u64 (m:Int)):=cvI_u64 (by omega) (by omega)
  have ml:AO .mul (.int .u64 2) (.int .u64 (m:Int))=some (.int .u64 ((2*m:Nat):Int)):=AKi (a:=2) (c:=m) (by omega)
  have ad:AO .add (.int .u64 ((2*m:Nat):Int)) (.int .u64 1)=some (.int .u64 ((2*m+1:Nat):Int)):=by rw[Dt,wrap_u64 (by omega) (by omega)];rfl
  have r:=JH (n:=2*m+1) (by omega)
  rw[e,ABA]
  generalize BR (2*m+1)=x at*
  generalize 2*m+1=z at*
  generalize 2*m=y at*
  simp(disch:=first|assumption|omega|(with_reducible rfl)|(simp only[go_sem];done)|(simp only[go_sem];omega)|fail) only[↓reduceIte,↓AL,Nat.reduceAdd,go_sem,sb,c,ml,ad,r]
theorem AHc (x:Vtx):Cl 102 [FZ x] []=some (.bool (F7 x),[]):=by
 have hg:=fun n=>AD2 n
 rw[AI5,F7]
 simp only[FZ]
 repeat' first|rfl|refine Qi (fun _=> ?_) (fun _=> ?_)|refine Qj (fun _=> ?_) (fun _=> ?_)|simp(disch:=first|assumption|omega|(with_reducible rfl)|(simp only[go_sem];done)|(simp only[go_sem];omega)|fail) only[↓reduceIte,↓AL,Nat.reduceAdd,go_sem,hg]
 all_goals simp_all
 all_goals omega
theorem AHd {x:Vtx} (hx:VOk x):Cl 72 [FZ x] []=some (.str (vtxB x),[]):=by
 obtain⟨x1,x2,x3⟩:=hx
 have hc:=AHc x
 by_cases h:F7 x=true
 ·have h0:0≤x.id:=by simp only[F7,Bool.not_eq_true',Bool.or_eq_false_iff,decide_eq_false_iff_not]at h;omega
  have hlt:x.id<18446744073709551616:=by have:=x1.2;omega
  rw[h]at hc
  rw[vtxB,if_pos h,AFc]
  have a:=Aq 10 x.id.toNat;have b:=Aq 10 (Lm x.val);have c:=Aq 10 (Lm x.inn)
  have d:=Aq 10 (He x.act);have e:=Aq 10 (He x.has)
  have r1:=JH (n:=x.id.toNat) (by omega)
  rw[show(x.id.toNat:Int)=x.id by omega]at r1
  have r2:=ACy x2
  have r3:=ACx x.act
  have r4:=ACx x.has
  have r5:=ACy x3
  have cv:=cvI_u64 (k:= .i64) h0 hlt
  change (BR x.id.toNat).length≤10 at a
  change (BR (Lm x.val)).length≤10 at b
  change (BR (Lm x.inn)).length≤10 at c
  change (BR (He x.act)).length≤10 at d
  change (BR (He x.has)).length≤10 at e
  simp only[FZ]at hc⊢
  generalize BR x.id.toNat=n1 at*
  generalize BR (Lm x.val)=n2 at*
  generalize BR (He x.act)=n3 at*
  generalize BR (He x.has)=n4 at*
  generalize BR (Lm x.inn)=n5 at*
  have s1:=Tm n1 n2 (by omega)
  have s2:=Tm (n1++n2) n3 (by simp only[List.length_append];omega)
  have s3:=Tm (n1++n2++n3) n4 (by simp only[List.length_append];omega)
  have s4:=Tm (n1++n2++n3++n4) n5 (by simp only[List.length_append];omega)
  simp only[List.append_assoc]at s1 s2 s3 s4⊢
  simp(disch:=first|assumption|omega|(with_reducible rfl)|(simp only[go_sem];done)|(simp only[go_sem];omega)|fail) only[↓reduceIte,↓AL,Nat.reduceAdd,go_sem,hc,r1,r2,r3,r4,r5,cv,s1,s2,s3,s4]
 ·rw[Bool.not_eq_true]at h
  rw[h]at hc
  rw[vtxB,if_neg (by simp[h]),AFc]
  simp only[FZ]at hc⊢
  simp(disch:=first|assumption|omega|(with_reducible rfl)|(simp only[go_sem];done)|(simp only[go_sem];omega)|fail) only[↓reduceIte,↓AL,Nat.reduceAdd,go_sem,hc]
theorem AHe {l:List Vtx} (hl:∀x∈l,VOk x) (hn:l.length≤1000000) (f:Fl) (hf:f= .own∨f= .nil∨f= .sh):∀(n i:Nat),i+n=l.length→
 VD (.lst 81 f (l.map FZ)) (.lst 9 .own (((l.take i).map vtxB).map V.str)) (.int .i64 (i:Int))=some (.lst 9 .sh ((l.map vtxB).map V.str),[]):=by
 intro n
 induction n with
 |zero=>
  intro i hi
  rw[List.take_of_length_le (by omega),TS]
  generalize l.map vtxB=r
  rcases hf with rfl|rfl|rfl
  all_goals simp(disch:=first|assumption|omega|(with_reducible rfl)|(simp only[go_sem];done)|(simp only[go_sem];omega)|fail) only[↓reduceIte,↓AL,Nat.reduceAdd,go_sem]
 |succ n ih=>
  intro i hi
  have h:i<l.length:=by omega
  have hr:=AHd (hl _ (List.getElem_mem h))
  have:=ih (i+1) (by omega)
  rw[←List.take_append_getElem h,List.map_append,List.map_append]at this
  simp only[List.map_cons,List.map_nil]at this
  have hx:=AL5 h
  rw[←this,TS]
  generalize l[i]=x at*
  generalize vtxB x=b at*
  have hrl:((l.take i).map vtxB).length≤1000000:=by rw[List.length_map,List.length_take];omega
  generalize (l.take i).map vtxB=r at*
  rcases hf with rfl|rfl|rfl
  all_goals simp(disch:=first|assumption|omega|(with_reducible rfl)|(simp only[go_sem];done)|(simp only[go_sem];omega)|fail) only[↓reduceIte,↓AL,Nat.reduceAdd,go_sem,hx,hr]
theorem Qv {l:List Vtx} (hl:∀x∈l,VOk x) (hn:l.length≤1000000) (f:Fl) (hf:f= .own∨f= .nil∨f= .sh):Cl 42 [.lst 81 f (l.map FZ)] []=some (.lst 9 .sh ((l.map vtxB).map V.str),[]):=by
 have h:=AHe hl hn f hf l.length 0 (by omega)
 rw[List.take_zero]at h
 simp only[List.map_nil,c0]at h
 rw[←h,AMo]
 simp(disch:=first|assumption|omega|(with_reducible rfl)|(simp only[go_sem];done)|(simp only[go_sem];omega)|fail) only[↓reduceIte,↓AL,Nat.reduceAdd,go_sem]
theorem AD3 {l:List Vtx} (hl:∀x∈l,VOk x) (hn:l.length≤1000000) (f:Fl) (hf:f= .nil∨f= .sh):Cl 41 [.lst 81 f (l.map FZ)] []=some (Ar (vrootB l),[]):=by
 have h:=Qv hl hn .sh (Or.inr (Or.inr rfl))
 have h2:=Qv hl hn .nil (Or.inr (Or.inl rfl))
 have r:=YU (g:= .sh) (l:=l.map vtxB) (by rw[List.length_map];omega) (AHY l)
 rw[vrootB,AMn]
 generalize YT (l.map vtxB)=b at*
 rw[KA]
 rcases hf with rfl|rfl
 all_goals simp(disch:=first|assumption|omega|(with_reducible rfl)|(simp only[go_sem];done)|(simp only[go_sem];omega)|fail) only[↓reduceIte,↓AL,Nat.reduceAdd,go_sem,h,h2,r]
 all_goals rfl
end
section
open Go AM
attribute [local irreducible] vrootB vtxB firstX
def Hr (g:Grf) (j:Job) (N w:Nat):Bk:=⟨0,List.replicate w false,(List.range w).map fun w=>vrootB (Dv g j N w),(List.range w).map fun w=>(Dv g j N w).map vtxB,[]⟩
theorem AHf (g:Grf) (j:Job) (N:Nat):Bd g j N=Hr g j N N:=rfl
theorem AHg {g:Grf} (hg:g.n≤64) (h1:1≤g.n) {j:Job} {N w:Nat} (hN:N≤64) (hw:w<N) {f:Fl} (hf:f= .own∨f= .nil) (a z:V) (ha:a.away 3=true) (hz:z.away 3=true) {L:List Nat} (i m0:Nat) (hL:L.length=i):
 Oy (.int .i64 (N:Int)) (.ref 0 [] 24) (.ref 1 [] 26) (.ref 2 [] 33) (.ref 3 [] 33) (.int .i64 (w:Int)) (WW .sh L) (.lst 81 .own ((Dv g j N w).map FZ)) (.int .i64 (i:Int)) m0 [a,vJ j,z,H6 f f f .nil (Hr g j N w)]=
  Lu (.int .i64 (N:Int)) (.ref 0 [] 24) (.ref 1 [] 26) (.ref 2 [] 33) (.ref 3 [] 33) (.int .i64 ((w+1:Nat):Int)) [a,vJ j,z,H6 .own .own .own .nil (Hr g j N (w+1))]:=by
 have hl:=Qs g j N w
 have ok:=ACw hg j N w
 have hR:=AD3 ok (by omega) .sh (Or.inr rfl)
 have hW:=Qv ok (by omega) .sh (Or.inr (Or.inr rfl))
 have e1:(Hr g j N (w+1)).roots=(Hr g j N w).roots++[vrootB (Dv g j N w)]:=by simp[Hr,List.range_succ]
 have e2:(Hr g j N (w+1)).known=(Hr g j N w).known++[(Dv g j N w).map vtxB]:=by simp[Hr,List.range_succ]
 have e3:(Hr g j N (w+1)).gone=(Hr g j N w).gone++[false]:=by simp[Hr,List.replicate_succ']
 have e4:(Hr g j N (w+1)).step=(Hr g j N w).step:=rfl
 have e5:(Hr g j N (w+1)).sent=(Hr g j N w).sent:=rfl
 have l1:(Hr g j N w).roots.length=w:=by simp[Hr]
 have l2:(Hr g j N w).known.length=w:=by simp[Hr]
 have l0:(Hr g j N w).gone.length=w:=by simp[Hr]
 have l3:=MN (Dv g j N w)
 rw[show H6 .own .own .own .nil (Hr g j N (w+1))= .agg JW [.int .i64 (Hr g j N w).step,.lst 4 .own (((Hr g j N w).gone++[false]).map V.bool),.lst 55 .own (((Hr g j N w).roots++[vrootB (Dv g j N w)]).map Ar),.lst 58 .own (((Hr g j N w).known++[(Dv g j N w).map vtxB]).map sS),.lst 108 .nil ((Hr g j N w).sent.map Ah)]from by rw[←e1,←e2,←e3,←e4,←e5]]
 generalize Hr g j N w=b at*
 generalize hrt:vrootB (Dv g j N w)=rt at*
 generalize hkn:(Dv g j N w).map vtxB=kn at*
 generalize Dv g j N w=xs at*
 have aw:∀v:V,BP 3 ([a,vJ j,z,v].set 3 void)=true:=by
  intro v
  simp only[List.set_cons_succ,List.set_cons_zero,BP,ha,hz];rfl
 have c1:∀(v:V) (k:V→List V→Rv),Bl P DZ W (some (.ref 3 [] 33)) (.clo 41 []) [.lst 81 .sh (xs.map FZ)] [a,vJ j,z,v] k=k (Ar rt) [a,vJ j,z,v]:=
  fun v k=>Hf (by kernel_rfl) (by kernel_rfl) (v:=v) rfl (aw v) rfl (Qu _ _ _ (Or.inl rfl)) ((V.PF _ (ML _)).away 3) hR k
 have c2:∀(v:V) (k:V→List V→Rv),Bl P DZ W (some (.ref 3 [] 33)) (.clo 42 []) [.lst 81 .own (xs.map FZ)] [a,vJ j,z,v] k=k (sS kn) [a,vJ j,z,v]:=
  fun v k=>Hf (by kernel_rfl) (by kernel_rfl) (v:=v) rfl (aw v) rfl rfl ((V.PF _ (AHa _)).away 3) hW k
 have t0:∀(x0 x2 x3 x4:V) (rs:List V) (f:Fl),BN [a,vJ j,z,.agg JW [x0,.lst 4 f rs,x2,x3,x4]] 28 (.ref 3 [1] 28)=some (.lst 4 f rs,[a,vJ j,z,.agg JW [x0,.lst 4 f.wk rs,x2,x3,x4]]):=
  fun x0 x2 x3 x4 rs f=>Ey (h:=[a,vJ j,z,.agg JW [x0,.lst 4 f rs,x2,x3,x4]]) (id:=3) rfl rfl
 have t1:∀(x0 x2 x3 x4:V) (rs:List V) (f:Fl),BN [a,vJ j,z,.agg JW [x0,x2,.lst 55 f rs,x3,x4]] 29 (.ref 3 [2] 29)=some (.lst 55 f rs,[a,vJ j,z,.agg JW [x0,x2,.lst 55 f.wk rs,x3,x4]]):=
  fun x0 x2 x3 x4 rs f=>Ey (h:=[a,vJ j,z,.agg JW [x0,x2,.lst 55 f rs,x3,x4]]) (id:=3) rfl rfl
 have t2:∀(x0 x2 x3 x4:V) (rs:List V) (f:Fl),BN [a,vJ j,z,.agg JW [x0,x2,x3,.lst 58 f rs,x4]] 30 (.ref 3 [3] 30)=some (.lst 58 f rs,[a,vJ j,z,.agg JW [x0,x2,x3,.lst 58 f.wk rs,x4]]):=
  fun x0 x2 x3 x4 rs f=>Ey (h:=[a,vJ j,z,.agg JW [x0,x2,x3,.lst 58 f rs,x4]]) (id:=3) rfl rfl
 rw[TI]
 have sb2:Dx (.ref 3 [] 33) (.ref 3 [2] 29)=true:=rfl
 have sb3:Dx (.ref 3 [] 33) (.ref 3 [3] 30)=true:=rfl
 have hm:∀x:List UInt8,(b.roots++[x]).map Ar=b.roots.map Ar++[Ar x]:=by simp
 have hm2:∀x,(b.known++[x]).map sS=b.known.map sS++[sS x]:=by simp
 have hm3:∀x,(b.gone++[x]).map V.bool=b.gone.map V.bool++[V.bool x]:=by simp
 rw[hm,hm2,hm3]
 rcases hf with rfl|rfl
 all_goals simp(disch:=first|assumption|omega|(with_reducible rfl)|(simp only[go_sem];done)|(simp only[go_sem];omega)|fail) only[↓reduceIte,↓AL,Nat.reduceAdd,go_sem,c1,c2,t0,t1,t2,sb2,sb3]
theorem AKr {g:Grf} (hg:g.n≤64) (h1:1≤g.n) {j:Job} {N w:Nat} (hN:N≤64) (hw:w<N) {f:Fl} (hf:f= .own∨f= .nil) (a z:V) (ha:a.away 3=true) (hz:z.away 3=true) (m0:Nat):∀(n i:Nat),i+n=(ofL g.n.toNat N w).length→
 Oy (.int .i64 (N:Int)) (.ref 0 [] 24) (.ref 1 [] 26) (.ref 2 [] 33) (.ref 3 [] 33) (.int .i64 (w:Int)) (WW .sh (ofL g.n.toNat N w)) (.lst 81 .own (((ofL g.n.toNat N w).take i).map fun(v:Nat)=>FZ (firstX j (v:Int)))) (.int .i64 (i:Int)) m0 [a,vJ j,z,H6 f f f .nil (Hr g j N w)]=
  Lu (.int .i64 (N:Int)) (.ref 0 [] 24) (.ref 1 [] 26) (.ref 2 [] 33) (.ref 3 [] 33) (.int .i64 ((w+1:Nat):Int)) [a,vJ j,z,H6 .own .own .own .nil (Hr g j N (w+1))]:=by
 intro n
 induction n with
 |zero=>
  intro i hi
  have h:=AHg hg h1 hN hw hf a z ha hz (L:=ofL g.n.toNat N w) i m0 (j:=j) (by omega)
  rw[List.take_of_length_le (by omega)]
  rw[Dv,List.map_map]at h
  exact h
 |succ n ih=>
  intro i hi
  have hlen:=HY g.n.toNat N w
  have hl:i<(ofL g.n.toNat N w).length:=by omega
  have h2:=Z9 (List.getElem_mem hl)
  have hx:=ADv j (v:=((ofL g.n.toNat N w)[i]:Nat)) (by omega) (by omega)
  have hc:∀(k:V×List V→Rv),((Cl 40 [vJ j,.int .i64 ((ofL g.n.toNat N w)[i]:Int)] []).bind k)=k (FZ (firstX j ((ofL g.n.toNat N w)[i]:Int)),[]):=fun k=>AB hx k
  have ih':=ih (i+1) (by omega)
  have ix:ET 3 (WW .sh (ofL g.n.toNat N w)) (.int .i64 (i:Int))=some (.rop 3 (.int .i64 ((ofL g.n.toNat N w)[i]:Int))):=by
   rw[WW,Qh,List.getElem?_map,List.getElem?_eq_getElem hl];rfl
  rw[←List.take_append_getElem hl,List.map_append]at ih'
  generalize hX:(ofL g.n.toNat N w)[i]=x at*
  generalize hF:firstX j (x:Int)=y at*
  generalize H6 f f f .nil (Hr g j N w)=b at*
  generalize H6 .own .own .own .nil (Hr g j N (w+1))=b2 at*
  generalize ofL g.n.toNat N w=L at*
  simp only[List.map_cons,List.map_nil,hF]at ih'
  rw[←ih',TI]
  simp(disch:=first|assumption|omega|(with_reducible rfl)|(simp only[go_sem];done)|(simp only[go_sem];omega)|fail) only[↓reduceIte,↓AL,Nat.reduceAdd,go_sem,hc,ix,hF]
theorem AKs {g:Grf} (hg:g.n≤64) (h1:1≤g.n) {j:Job} {N:Nat} (hN:N≤64) (hN1:1≤N):∀(n w:Nat) (f:Fl),(f= .own∨f= .nil)→w+n=N→
 Lu (.int .i64 (N:Int)) (.ref 0 [] 24) (.ref 1 [] 26) (.ref 2 [] 33) (.ref 3 [] 33) (.int .i64 (w:Int)) [vG .sh g,vJ j,H6 .nil .nil .nil .nil zB,H6 f f f .nil (Hr g j N w)]=some (vB (Bd g j N),[]):=by
 intro n
 induction n with
 |zero=>
  intro w f hf hi
  obtain rfl:w=N:=by omega
  rw[AHf,TJ]
  generalize Hr g j w w=b at*
  rcases hf with rfl|rfl
  all_goals simp(disch:=first|assumption|omega|(with_reducible rfl)|(simp only[go_sem];done)|(simp only[go_sem];omega)|fail) only[↓reduceIte,↓AL,Nat.reduceAdd,go_sem]
  all_goals rfl
 |succ n ih=>
  intro w f hf hi
  have hw:w<N:=by omega
  have hL:=AKr hg h1 (j:=j) hN hw hf (vG .sh g) (H6 .nil .nil .nil .nil zB) rfl rfl 4 (ofL g.n.toNat N w).length 0 (by omega)
  have hof:=AOX (n:=g.n.toNat) (N:=N) (w:=w) (by omega) (by omega) hN
  have hlen:=HY g.n.toNat N w
  rw[show(g.n.toNat:Int)=g.n by omega]at hof
  rw[←ih (w+1) .own (Or.inl rfl) (by omega),←hL,TJ]
  clear ih hL
  generalize H6 f f f .nil (Hr g j N w)=b at*
  generalize H6 .own .own .own .nil (Hr g j N (w+1))=b2 at*
  generalize ofL g.n.toNat N w=L at*
  simp(disch:=first|assumption|omega|(with_reducible rfl)|(simp only[go_sem];done)|(simp only[go_sem];omega)|fail) only[↓reduceIte,↓AL,Nat.reduceAdd,go_sem,hof]
  rfl
theorem AKt {g:Grf} {j:Job} {w:Nat} (hb:DC g j w=true):Cl 14 [vG .sh g,vJ j,.int .i64 (w:Int)] []=some (vB (Bd g j w),[]):=by
 simp only[DC,Bool.and_eq_true,decide_eq_true_eq]at hb
 obtain⟨hj,h1,h2⟩:=hb
 have hg':=Og hj
 have h0:=AKs hg'.2 hg'.1 (j:=j) (N:=w) (by omega) (by omega) w 0 .nil (Or.inr rfl) (by omega)
 rw[AMa,←h0]
 generalize Bd g j w=b at*
 have hu:Hr g j w 0=⟨0,[],[],[],[]⟩:=rfl
 rw[hu]
 simp(disch:=first|assumption|omega|(with_reducible rfl)|(simp only[go_sem];done)|(simp only[go_sem];omega)|fail) only[↓reduceIte,↓AL,Nat.reduceAdd,go_sem]
 rfl
end
section
open Go AM
theorem AD4 {l:List (List UInt8)} (hn:l.length≤1000000):∀(n i:Nat),i+n=l.length→U7 (sS l) (sS l) (.int .i64 (i:Int))=some (.bool true,[]):=by
 intro n
 induction n with
 |zero=>
  intro i hi
  rw[TM]
  simp only[sS]
  simp(disch:=first|assumption|omega|(with_reducible rfl)|(simp only[go_sem];done)|(simp only[go_sem];omega)|fail) only[↓reduceIte,↓AL,Nat.reduceAdd,go_sem]
 |succ n ih=>
  intro i hi
  have h:i<l.length:=by omega
  have hx:(l.map V.str)[i]?=some (.str l[i]):=by simp[h]
  have:=ih (i+1) (by omega)
  rw[←this,TM]
  generalize l[i]=x at*
  simp only[sS]
  simp(disch:=first|assumption|omega|(with_reducible rfl)|(simp only[go_sem];done)|(simp only[go_sem];omega)|fail) only[↓reduceIte,↓AL,Nat.reduceAdd,go_sem,hx]
theorem AD5 {l:List (List UInt8)} (hn:l.length≤1000000):Cl 25 [sS l,sS l] []=some (.bool true,[]):=by
 have h:=AD4 hn l.length 0 (by omega)
 simp only[c0]at h
 rw[←h,AMc]
 simp only[sS]
 simp(disch:=first|assumption|omega|(with_reducible rfl)|(simp only[go_sem];done)|(simp only[go_sem];omega)|fail) only[↓reduceIte,↓AL,Nat.reduceAdd,go_sem]
structure BkOk (b:Bk):Prop where
 gone:b.gone.length≤1000000
 roots:b.roots.length≤1000000
 known:b.known.length≤1000000
 each:∀k∈b.known,k.length≤1000000
 len:∀r∈b.roots,r.length=32
 sent:b.sent.length≤1000000
theorem AHh {b:Bk} (hb:BkOk b):∀(n i:Nat),i+n=b.known.length→U5 (.ref 0 [] 33) (.ref 1 [] 33) (.int .i64 (i:Int)) [vB b,vB b]=some (.bool true,[]):=by
 have:=hb.known
 intro n
 induction n with
 |zero=>
  intro i hi
  rw[TD]
  simp(disch:=first|assumption|omega|(with_reducible rfl)|(simp only[go_sem];done)|(simp only[go_sem];omega)|fail) only[↓reduceIte,↓AL,Nat.reduceAdd,go_sem]
 |succ n ih=>
  intro i hi
  have h:i<b.known.length:=by omega
  have hx:(b.known.map sS)[i]?=some (sS b.known[i]):=by simp[h]
  have hs:=AD5 (hb.each _ (List.getElem_mem h))
  have:=ih (i+1) (by omega)
  rw[←this,TD]
  clear ih this
  generalize b.known[i]=x at*
  simp(disch:=first|assumption|omega|(with_reducible rfl)|(simp only[go_sem];done)|(simp only[go_sem];omega)|fail) only[↓reduceIte,↓AL,Nat.reduceAdd,go_sem,hx,hs]
theorem AHi {b:Bk} (hb:BkOk b):∀(n i:Nat),i+n=b.roots.length→U4 (.ref 0 [] 33) (.ref 1 [] 33) (.int .i64 (i:Int)) [vB b,vB b]=some (.bool true,[]):=by
 have:=hb.roots
 intro n
 induction n with
 |zero=>
  intro i hi
  have h4:=AHh hb b.known.length 0 (by omega)
  simp only[c0]at h4
  rw[←h4,TF]
  simp(disch:=first|assumption|omega|(with_reducible rfl)|(simp only[go_sem];done)|(simp only[go_sem];omega)|fail) only[↓reduceIte,↓AL,Nat.reduceAdd,go_sem]
 |succ n ih=>
  intro i hi
  have h:i<b.roots.length:=by omega
  have hx:(b.roots.map Ar)[i]?=some (Ar b.roots[i]):=by simp[h]
  have hl:=hb.len _ (List.getElem_mem h)
  have:=ih (i+1) (by omega)
  rw[←this,TF]
  clear ih this
  generalize b.roots[i]=x at*
  have hne:U2 (BI 54) .neq (Ar x) (Ar x)=some (.bool false):=by
   rw[neA hl hl];simp
  simp(disch:=first|assumption|omega|(with_reducible rfl)|(simp only[go_sem];done)|(simp only[go_sem];omega)|fail) only[↓reduceIte,↓AL,Nat.reduceAdd,go_sem,hx,hne]
theorem AHj {b:Bk} (hb:BkOk b):∀(n i:Nat),i+n=b.gone.length→U3 (.ref 0 [] 33) (.ref 1 [] 33) (.int .i64 (i:Int)) [vB b,vB b]=some (.bool true,[]):=by
 have:=hb.gone
 intro n
 induction n with
 |zero=>
  intro i hi
  have h4:=AHi hb b.roots.length 0 (by omega)
  simp only[c0]at h4
  rw[←h4,TG]
  simp(disch:=first|assumption|omega|(with_reducible rfl)|(simp only[go_sem];done)|(simp only[go_sem];omega)|fail) only[↓reduceIte,↓AL,Nat.reduceAdd,go_sem]
 |succ n ih=>
  intro i hi
  have h:i<b.gone.length:=by omega
  have hx:(b.gone.map V.bool)[i]?=some (.bool b.gone[i]):=by simp[h]
  have:=ih (i+1) (by omega)
  rw[←this,TG]
  clear ih this
  generalize b.gone[i]=x at*
  have hne:U2 AM.tyB .neq (.bool x) (.bool x)=some (.bool false):=by cases x<;>rfl
  simp(disch:=first|assumption|omega|(with_reducible rfl)|(simp only[go_sem];done)|(simp only[go_sem];omega)|fail) only[↓reduceIte,↓AL,Nat.reduceAdd,go_sem,hx,hne]
theorem UR {b:Bk} (hb:BkOk b) (hS:Cl 38 [.lst 108 .sh (b.sent.map Ah),.lst 108 .sh (b.sent.map Ah)] []=some (.bool true,[])):Cl 13 [vB b,vB b] []=some (.bool true,[]):=by
 have h:=AHj hb b.gone.length 0 (by omega)
 simp only[c0]at h
 rw[←h,AMZ]
 simp(disch:=first|assumption|omega|(with_reducible rfl)|(simp only[go_sem];done)|(simp only[go_sem];omega)|fail) only[↓reduceIte,↓AL,Nat.reduceAdd,go_sem,hS]
theorem AKu:Cl 38 [.lst 108 .sh [],.lst 108 .sh []] []=some (.bool true,[]):=DF.2 ⟨60,by kernel_rfl⟩
theorem AQ7:BkOk zB:=⟨by simp[zB],by simp[zB],by simp[zB],by simp[zB],by simp[zB],by simp[zB]⟩
theorem ACz {g:Grf} {j:Job} {N:Nat} (hg:g.n≤64) (hN:N≤64):BkOk (Bd g j N):=by
 refine⟨by simp[Bd];omega,by simp[Bd];omega,by simp[Bd];omega,?_,?_,by simp[Bd]⟩
 ·intro k hk
  simp only[Bd,List.mem_map]at hk
  obtain⟨w,_,rfl⟩:=hk
  have:=Qs g j N w
  simp only[List.length_map];omega
 ·intro r hr
  simp only[Bd,List.mem_map]at hr
  obtain⟨w,_,rfl⟩:=hr
  exact MN _
theorem Qw {g:Grf} (hl:g.es.length<1000000):Cl 11 [vG .sh g] []=some (vG .sh g,[]):=by
 rw[AMX]
 have ap:∀h:List V,Gi 112 (BI 111) false h (.lst 112 .own []) (.lst 112 .sh (g.es.map Ql))=some (.lst 112 .own ([]++g.es.map Ql)):=fun h=>
  EO (V.PFL _ (AKQ g.es)).clean (all_map AKR _) (by simp;omega) _ _ _
 simp(disch:=first|assumption|omega|(with_reducible rfl)|(simp only[go_sem];done)|(simp only[go_sem];omega)|fail) only[↓reduceIte,↓AL,Nat.reduceAdd,go_sem,ap]
end
section
open Go AM
end
section
open Go AM
def UU (f:FuncId) (arg bx ix:V) (sT:TypeId) (n:Nat) (tS tE:TypeId) (v:Bool) (h:List V) (k:List V→Rv):Rv:=
 if(DZ.pure f&& !DZ.ext f&&decide ((DZ.seq f).1=0))=true then
  (Cl f (AA h [arg]) []).bind fun r=>
   match r.1,bx,ix with
   | .lst e .own xs,.ref id p t',.int _ j=>(AM.boolsOf xs).bind fun bs=>(Ap P sT n (.ref id p t')).bind fun a=>
     if(decide (0≤j)&&Nat.blt j.toNat bs.length&&BJ P tE (.bool v))=true then
      (D8 P h tS a (.lst e .own ((bs.set j.toNat v).map .bool))).bind fun h'=>k h'
     else none
   |_,_,_=>none
 else none
theorem Qx (t0 t1 t2 t3:V) (h:List V):Cl 57 [t0,t1,t2,t3] h=
 if((BI 23) (V.weak t0)&&V.under (List.length h) (V.weak t0))=true then if((BI 25) t1&&V.under (List.length (h++[(V.weak t0)])) t1)=true then if((BI 32) (V.weak t2)&&V.under (List.length ((h++[(V.weak t0)])++[t1])) (V.weak t2))=true then(Cl 55 (AU [t3]) ((((h++[(V.weak t0)])++[t1])++[(V.weak t2)])++[(V.agg 32 [(V.int .i64 0),(V.lst 4 .nil []),(V.lst 55 .nil []),(V.lst 58 .nil []),(V.lst 108 .nil [])])])).bind fun r_1=>jn (fun t32_2 h_3=>
 V.ite t32_2
  (((ck [] [(V.int .i64 0),(V.lst 4 .nil []),(V.lst 55 .nil []),(V.lst 58 .nil []),(V.lst 108 .nil [])]).map (.agg 32)).bind fun t33_4=>(CJ (BI 32) 33 h_3 (V.ref (List.length (((h++[(V.weak t0)])++[t1])++[(V.weak t2)])) [] 33) t33_4).bind fun h_5=>(BL h_5 33 (V.ref (List.length (((h++[(V.weak t0)])++[t1])++[(V.weak t2)])) [] 33)).bind fun c_6=>if(List.all [(V.bool false),c_6] V.okE)=true then AQ (List.length h) h_5 (V.tup [c_6,(V.bool false)])else none)
  ((BL h_3 24 (V.ref (List.length h) [] 24)).bind fun t35_7=>(AY h_3 26 (V.ref (List.length (h++[(V.weak t0)])) [] 26)).bind fun t36_8=>(fA 33 28 1 (V.ref (List.length ((h++[(V.weak t0)])++[t1])) [] 33)).bind fun t37_9=>(BL h_3 28 t37_9).bind fun t38_10=>(EU t38_10).bind fun t39_11=>(Cl 10 (AA h_3 [t35_7,t36_8,t39_11]) []).bind fun r_12=>(Fz r_12.1 0).bind fun t41_13=>(ext r_12.1 1).bind fun t42_14=>(CJ (BI 32) 33 (h_3++[(V.agg 32 [(V.int .i64 0),(V.lst 4 .nil []),(V.lst 55 .nil []),(V.lst 58 .nil []),(V.lst 108 .nil [])])]) (V.ref (List.length h_3) [] 33) t41_13).bind fun h_15=>(fA 33 28 1 (V.ref (List.length ((h++[(V.weak t0)])++[t1])) [] 33)).bind fun t43_16=>(BL h_15 28 t43_16).bind fun t44_17=>UU 80 t44_17 (V.ref (List.length h_3) [] 33) r_1.1 33 1 28 4 true h_15 fun h_24=>(BL h_24 33 (V.ref (List.length h_3) [] 33)).bind fun t51_25=>(CJ (BI 32) 33 h_24 (V.ref (List.length (((h++[(V.weak t0)])++[t1])++[(V.weak t2)])) [] 33) t51_25).bind fun h_26=>(BL h_26 33 (V.ref (List.length (((h++[(V.weak t0)])++[t1])++[(V.weak t2)])) [] 33)).bind fun c_27=>if(List.all [(V.bool true),c_27] V.okE)=true then AQ (List.length h) h_26 (V.tup [c_27,(V.bool true)])else none)) (fun(k_28:V→List V→Rv)=>(Cl 86 (AU [t3]) r_1.2).bind fun r_29=>(AO .neq r_29.1 (V.int .i64 0)).bind fun t17_30=>V.ite t17_30 (k_28 (V.bool true) r_29.2) ((fA 33 28 1 (V.ref (List.length ((h++[(V.weak t0)])++[t1])) [] 33)).bind fun t20_31=>(BL r_29.2 28 t20_31).bind fun t21_32=>(EU t21_32).bind fun t22_33=>(Hz .u64 t22_33).bind fun t23_34=>(AO .geq r_1.1 t23_34).bind fun t24_35=>V.ite t24_35 (k_28 (V.bool true) r_29.2) ((fA 33 28 1 (V.ref (List.length ((h++[(V.weak t0)])++[t1])) [] 33)).bind fun t27_36=>(BL r_29.2 28 t27_36).bind fun t28_37=>(ET 4 t28_37 r_1.1).bind fun t30_38=>(AY r_29.2 4 t30_38).bind fun t31_39=>k_28 t31_39 r_29.2)))else none else none else none:=
  ALq (by kernel_rfl)
end
section
open Go AM
abbrev ATZ:V:= .agg 54 (List.replicate 32 (.int .u8 0))
abbrev zVd:V:= .agg 59 [.int .i64 0,.int .i64 0,.agg 56 [.int .i64 0,.int .i64 0,ATZ,.lst 55 .nil []],.lst 108 .nil [],.lst 9 .nil []]
def Qy:List UInt8:=[65,0]++(List.replicate 32 0++[0])++(List.replicate 32 0++[0])++[1,0]
theorem ATa (r0 r1:List UInt8) (k0 k1:List (List UInt8)):Cl 20 [vB ⟨0,[false,false],[r0,r1],[k0,k1],[]⟩,.int .i64 1] []=some (.tup [.str [69,1],.int .i64 0],[]):=DF.2 ⟨60,by kernel_rfl⟩
theorem ATb (r0 r1:List UInt8) (k0 k1:List (List UInt8)):Cl 17 [vB ⟨0,[false,false],[r0,r1],[k0,k1],[]⟩,.lst 60 .sh [zVd,zVd]] []=some (.tup [.str Qy,.int .i64 0],[]):=DF.2 ⟨60,by kernel_rfl⟩
def j0:Job:=⟨[109,97,120],0,2⟩
def g0:Grf:=⟨2,[]⟩
def Dw (g1:Bool) (r0 r1:List UInt8) (k0 k1:List (List UInt8)):Bk:=⟨0,[false,g1],[r0,r1],[k0,k1],[]⟩
def bk1 (g1:Bool):Bk:=⟨1,[false,g1],[List.replicate 32 0,List.replicate 32 0],[[],[]],[]⟩
abbrev ZG:V:=H6 .nil .nil .nil .nil zB
theorem ATc (g1:Bool) (r0 r1 p0 p1:List UInt8) (k0 k1 q0 q1:List (List UInt8)):Cl 56 [vJ j0,vB (Dw g1 r0 r1 k0 k1),CP 5] [vG .sh g0,vJ j0,vB (Dw g1 r0 r1 k0 k1),ZG,vB (Dw false p0 p1 q0 q1),BA Qy.tail 0,ZG]=some (.tup [vB (bk1 g1),.bool true],[vG .sh g0,vJ j0,vB (Dw g1 r0 r1 k0 k1),ZG,vB (Dw false p0 p1 q0 q1),BA [] 0,ZG]):=DF.2 ⟨60,by kernel_rfl⟩
theorem ATd (a b:Bool):Cl 80 [.lst 4 .sh [.bool a,.bool b]] []=some (.lst 4 .own [.bool a,.bool b],[]):=DF.2 ⟨60,by kernel_rfl⟩
theorem AQ8:DC g0 j0 2=true:=by decide+kernel
theorem nb0:∃p0 p1 q0 q1,Bd g0 j0 2=Dw false p0 p1 q0 q1:=⟨vrootB (Dv g0 j0 2 0),vrootB (Dv g0 j0 2 1),(Dv g0 j0 2 0).map vtxB,(Dv g0 j0 2 1).map vtxB,by simp[Bd,Dw,List.range_succ,List.replicate]⟩
theorem ATe (h0 h1 h2 h3 h4 h5 h6 h7 h8 h9 h10 x0 x2 x3 x4:V) (k:List V→Rv):
 UU 80 (.lst 4 .sh [.bool false,.bool false]) (.ref 11 [] 33) (.int .u64 1) 33 1 28 4 true [h0,h1,h2,h3,h4,h5,h6,h7,h8,h9,h10,.agg JW [x0,.lst 4 .sh [.bool false,.bool false],x2,x3,x4]] k=
  k [h0,h1,h2,h3,h4,h5,h6,h7,h8,h9,h10,.agg JW [x0,.lst 4 .own [.bool false,.bool true],x2,x3,x4]]:=by
 unfold UU
 rw[if_pos (by kernel_rfl),show AA _ [V.lst 4 .sh [.bool false,.bool false]]=[V.lst 4 .sh [.bool false,.bool false]]from rfl,ATd]
 rfl
end
section
open Go AM
theorem Yb {l:List Bool} (hl:l.length≤1000000) (hn:0<l.length):Cl 80 [.lst 4 .sh (l.map V.bool)] []=some (.lst 4 .own (l.map V.bool),[]):=by
 have ap:∀h:List V,Gi 4 AM.tyB false h (.lst 4 .own []) (.lst 4 .sh (l.map V.bool))=some (.lst 4 .own ([]++l.map V.bool)):=fun h=>
  EO (V.PFL _ (Eb l)).clean (UQ l) (by simp;omega) _ _ _
 have en:H8 .eql (.lst 4 .sh (l.map V.bool)) (.lst 4 .nil [])=some (.bool false):=by
  cases l with
  |nil=>simp at hn
  |cons=>rfl
 rw[ANA]
 simp(disch:=first|assumption|omega|(with_reducible rfl)|(simp only[go_sem];done)|(simp only[go_sem];omega)|fail) only[↓reduceIte,↓AL,Nat.reduceAdd,go_sem,ap,en]
theorem UW:∀l:List Bool,AM.boolsOf (l.map V.bool)=some l
 |[]=>rfl
 |b::l=>by simp[AM.boolsOf,UW l]
theorem NU:∀(n:Nat) (l:List Bool),Ac n (l.map V.bool)=true
 |_,[]=>rfl
 |n,x::l=>by simp only[List.map_cons,Ac,NU n l];rfl
theorem AHk {l:List Bool} (hl:l.length≤1000000) {w:Nat} (hw:w<l.length) {h:List V} {id:Nat} {x0 x1 x2 x3 x4:V} (hh:h[id]?=some (.agg JW [x0,x1,x2,x3,x4])) (k:List V→Rv):
 UU 80 (.lst 4 .sh (l.map V.bool)) (.ref id [] 33) (.int .u64 (w:Int)) 33 1 28 4 true h k=
  k (h.set id (.agg JW [x0,.lst 4 .own ((l.set w true).map V.bool),x2,x3,x4])):=by
 have er:AA h [V.lst 4 .sh (l.map V.bool)]=[V.lst 4 .sh (l.map V.bool)]:=by
  rw[AA,(V.PF (.lst 4 .sh (l.map V.bool)) (by simp only[V.pl,Eb])).reify h];rfl
 have fa:Ap P 33 1 (.ref id [] 33)=some (.ref id [1] 28):=FT ASi rfl (by rw[ANV];decide) id []
 have st:D8 P h 28 (.ref id [1] 28) (.lst 4 .own ((l.set w true).map V.bool))=some (h.set id (.agg JW [x0,.lst 4 .own ((l.set w true).map V.bool),x2,x3,x4])):=
  G7 (i:=1) hh rfl (by simp[BJ,ASh]) (by simp only[V.under,NU])
 have ty:BJ P 4 (.bool true)=true:=by simp[BJ,K_4,BK,APr]
 unfold UU
 rw[if_pos (by kernel_rfl),er]
 refine(AB (Yb hl (by omega)) _).trans ?_
 show((AM.boolsOf (l.map V.bool)).bind fun bs=>_)=_
 refine(AB (UW l) _).trans ((AB fa _).trans ?_)
 rw[if_pos (by simp only[Int.natCast_nonneg,decide_true,Int.toNat_natCast,ty,Bool.and_true,Bool.true_and];rw[Nat.blt_eq];exact hw)]
 refine(AB st _).trans ?_
 rfl
def evB (g:Grf) (j:Job) (b:Bk) (s:List UInt8):Option Bk:=
 if FB (AP s 0).2.1 (AP s 0).2.2=0∧b.gone[(AP s 0).1]?=some false then some {Bd g j b.gone.length with gone:=b.gone.set (AP s 0).1 true}else none
def ZH (o:Option Bk):Bk:=o.getD zB
abbrev Ht:V:= .agg JW [.int .i64 0,.lst 4 .nil [],.lst 55 .nil [],.lst 58 .nil [],.lst 108 .nil []]
theorem AHl {g:Grf} (hl:g.es.length<1000000) {j:Job} {b:Bk} (hg:DC g j (b.gone.length:Int)=true) {s:List UInt8} (hs:s.length<4611686018427387904) (a0 a1 a2 a3 a4 a6:V):
 Cl 57 [vG .sh g,vJ j,vB b,CP 5] [a0,a1,a2,a3,a4,BA s 0,a6]=some (.tup [vB (ZH (evB g j b s)),.bool (evB g j b s).isSome],[a0,a1,a2,a3,a4,BA (AP s 0).2.1 (AP s 0).2.2,a6]):=by
 have hN:Cl 10 [vG .sh g,vJ j,.int .i64 (b.gone.length:Int)] []=some (.tup [vB (Bd g j b.gone.length),.int .i64 0],[]):=by
  have h:=MO hl j (b.gone.length:Int)
  rw[if_pos hg]at h
  rw[h];rfl
 have hlen:b.gone.length≤64:=by
  simp only[DC,Bool.and_eq_true,decide_eq_true_eq]at hg;omega
 have n55:Cl 55 [CP 5] [a0,a1,a2,a3,a4,BA s 0,a6,vG .sh g,vJ j,vB b,Ht]=some (.int .u64 ((AP s 0).1:Int),[a0,a1,a2,a3,a4,BA (AP s 0).2.1 (AP s 0).2.2,a6,vG .sh g,vJ j,vB b,Ht]):=G8 (id:=5) rfl hs
 have n86:Cl 86 [CP 5] [a0,a1,a2,a3,a4,BA (AP s 0).2.1 (AP s 0).2.2,a6,vG .sh g,vJ j,vB b,Ht]=some (.int .i64 (FB (AP s 0).2.1 (AP s 0).2.2:Int),[a0,a1,a2,a3,a4,BA (AP s 0).2.1 (AP s 0).2.2,a6,vG .sh g,vJ j,vB b,Ht]):=Vm (id:=5) rfl
 rw[evB]
 generalize (AP s 0).1=w at*
 generalize FB (AP s 0).2.1 (AP s 0).2.2=e at*
 generalize BA (AP s 0).2.1 (AP s 0).2.2=i2 at*
 generalize BA s 0=i1 at*
 by_cases he:e=0
 ·subst he
  by_cases hw:w<b.gone.length
  ·have hx:(b.gone.map V.bool)[w]?=some (.bool b.gone[w]):=by simp[hw]
   cases hgw:b.gone[w]with
   |true=>
    rw[if_neg (by rw[List.getElem?_eq_getElem hw,hgw];simp),Qx]
    rw[hgw]at hx
    simp only[zB,ZH,Option.getD_none,Option.isSome_none,List.map_nil]
    simp(disch:=first|assumption|omega|(with_reducible rfl)|(simp only[go_sem];done)|(simp only[go_sem];omega)|fail) only[↓reduceIte,↓AL,Nat.reduceAdd,go_sem,n55,n86,hx]
    rfl
   |false=>
    rw[if_pos ⟨rfl,by rw[List.getElem?_eq_getElem hw,hgw]⟩,Qx]
    rw[hgw]at hx
    simp only[zB,ZH,Option.getD_some,Option.isSome_some,List.map_nil]
    have pq:=fun h0 h1 h2 h3 h4 h5 h6 h7 h8 h9 h10 x0 x1 x2 x3 x4 (k:List V→Rv)=>AHk (l:=b.gone) (by omega) hw (h:=[h0,h1,h2,h3,h4,h5,h6,h7,h8,h9,h10,.agg JW [x0,x1,x2,x3,x4]]) (id:=11) rfl k
    generalize Bd g j b.gone.length=nb at*
    simp(disch:=first|assumption|omega|(with_reducible rfl)|(simp only[go_sem];done)|(simp only[go_sem];omega)|fail) only[↓reduceIte,↓AL,Nat.reduceAdd,go_sem,n55,n86,hx,hN]
    refine(pq _ _ _ _ _ _ _ _ _ _ _ _ _ _ _ _ _).trans ?_
    simp only[List.set_cons_succ,List.set_cons_zero]
    simp(disch:=first|assumption|omega|(with_reducible rfl)|(simp only[go_sem];done)|(simp only[go_sem];omega)|fail) only[↓reduceIte,↓AL,Nat.reduceAdd,go_sem]
  ·rw[if_neg (by rw[List.getElem?_eq_none (by omega)];simp),Qx]
   simp only[zB,ZH,Option.getD_none,Option.isSome_none,List.map_nil]
   simp(disch:=first|assumption|omega|(with_reducible rfl)|(simp only[go_sem];done)|(simp only[go_sem];omega)|fail) only[↓reduceIte,↓AL,Nat.reduceAdd,go_sem,n55,n86]
   rfl
 ·rw[if_neg (fun h=>he h.1),Qx]
  simp only[zB,ZH,Option.getD_none,Option.isSome_none,List.map_nil]
  simp(disch:=first|assumption|omega|(with_reducible rfl)|(simp only[go_sem];done)|(simp only[go_sem];omega)|fail) only[↓reduceIte,↓AL,Nat.reduceAdd,go_sem,n55,n86]
  rfl
end
section
open Go AM
theorem AHm {b:Bk} (hb:BkOk b):∀(n i:Nat) (f:Fl),(f= .own∨f= .nil)→i+n=b.known.length→
 U6 (.ref 0 [] 33) (.ref 1 [] 33) (.ref 2 [] 33) (.int .i64 (i:Int)) [vB b,Ht,.agg JW [.int .i64 b.step,.lst 4 .sh (b.gone.map V.bool),.lst 55 .sh (b.roots.map Ar),.lst 58 f ((b.known.take i).map sS),.lst 108 .sh (b.sent.map Ah)]]=some (vB b,[]):=by
 have hk:=hb.known
 intro n
 induction n with
 |zero=>
  intro i f hf hi
  rw[List.take_of_length_le (by omega),TL]
  rcases hf with rfl|rfl
  all_goals simp(disch:=first|assumption|omega|(with_reducible rfl)|(simp only[go_sem];done)|(simp only[go_sem];omega)|fail) only[↓reduceIte,↓AL,Nat.reduceAdd,go_sem]
  all_goals rfl
 |succ n ih=>
  intro i f hf hi
  have h:i<b.known.length:=by omega
  have hx:(b.known.map sS)[i]?=some (sS b.known[i]):=by simp[h]
  have he:=hb.each _ (List.getElem_mem h)
  have ih':=ih (i+1) .own (Or.inl rfl) (by omega)
  have hle:(b.known.take i).length≤1000000:=by rw[List.length_take];omega
  rw[←List.take_append_getElem h,List.map_append]at ih'
  clear ih
  generalize b.known.take i=done at*
  generalize b.known[i]=x at*
  simp only[List.map_cons,List.map_nil]at ih'
  have t2:∀(a z x0 x1 x2 x4:V) (rs:List V) (f:Fl),BN [a,z,.agg JW [x0,x1,x2,.lst 58 f rs,x4]] 30 (.ref 2 [3] 30)=some (.lst 58 f rs,[a,z,.agg JW [x0,x1,x2,.lst 58 f.wk rs,x4]]):=
   fun a z x0 x1 x2 x4 rs f=>Ey (h:=[a,z,.agg JW [x0,x1,x2,.lst 58 f rs,x4]]) (id:=2) rfl rfl
  have ap:∀h:List V,Gi 9 AM.tyS false h (.lst 9 .own []) (sS x)=some (.lst 9 .own ([]++x.map V.str)):=fun h=>
   EO (V.PFL _ (IX x)).clean (all_map (fun _=>rfl) _) (by simp;omega) _ _ _
  have w1:V.weak (.lst 9 .own ([]++x.map V.str))=sS x:=by rw[List.nil_append];rfl
  have lw1:DY true [.rop 58 (sS x)]=true:=rfl
  have lw2:DY true [.lst 9 .own [],sS x]=true:=rfl
  have sb3:Dx (.ref 2 [] 33) (.ref 2 [3] 30)=true:=rfl
  have sb0:Dx (.ref 0 [] 33) (.ref 0 [3] 30)=true:=rfl
  have df:ND (.ref 2 [] 33) (.ref 0 [] 33)=true:=rfl
  rw[←ih',TL]
  rcases hf with rfl|rfl
  all_goals simp(disch:=first|assumption|omega|(with_reducible rfl)|(simp only[go_sem];done)|(simp only[go_sem];omega)|fail) only[↓reduceIte,↓AL,Nat.reduceAdd,go_sem,hx,t2,ap,w1,lw1,lw2,sb3,sb0,df,EM,EN]
  all_goals rfl
theorem Yc {b:Bk} (hb:BkOk b):Cl 18 [vB b] []=some (vB b,[]):=by
 have h0:=AHm hb b.known.length 0 .nil (Or.inr rfl) (by omega)
 rw[List.take_zero,List.map_nil]at h0
 have h1:=hb.gone;have h2:=hb.roots;have h3:=hb.sent
 rw[←h0,AMb]
 have lw1:∀(t:TypeId) (xs:List V),DY true [.lst t .own [],.lst t .sh xs]=true:=fun _ _=>rfl
 have ap1:∀h:List V,Gi 4 AM.tyB false h (.lst 4 .own []) (.lst 4 .sh (b.gone.map V.bool))=some (.lst 4 .own ([]++b.gone.map V.bool)):=fun h=>
  EO (V.PFL _ (Eb b.gone)).clean (UQ b.gone) (by simp;omega) _ _ _
 have ap2:∀h:List V,Gi 55 (BI 54) false h (.lst 55 .own []) (.lst 55 .sh (b.roots.map Ar))=some (.lst 55 .own ([]++b.roots.map Ar)):=fun h=>
  EO (V.PFL _ (Ec b.roots)).clean (all_map (fun _=>Ji ..) _) (by simp;omega) _ _ _
 have ap3:∀h:List V,Gi 108 (BI 107) false h (.lst 108 .own []) (.lst 108 .sh (b.sent.map Ah))=some (.lst 108 .own ([]++b.sent.map Ah)):=fun h=>
  EO (V.PFL _ (Gt b.sent)).clean (AHU _) (by simp;omega) _ _ _
 simp(disch:=first|assumption|omega|(with_reducible rfl)|(simp only[go_sem];done)|(simp only[go_sem];omega)|fail) only[↓reduceIte,↓AL,Nat.reduceAdd,go_sem,ap1,ap2,ap3,lw1]
 rfl
set_option maxHeartbeats 4000000 in
theorem AD6 {g:Grf} (hl:g.es.length<1000000) {j:Job} {b:Bk} (hg:DC g j (b.gone.length:Int)=true) (hr:b.roots.length=b.gone.length) {rec s:List UInt8} (hrec:rec.length<4611686018427387904) (h69:AP rec 0=(69,s,0)) (hs:s.length<4611686018427387904):
 Cl 23 [vG .sh g,vJ j,vB b,.str rec] []=some (.tup [vB (ZH (evB g j b s)),.int .i64 (if(evB g j b s).isSome=true then 0 else 171)],[]):=by
 have hN:Cl 10 [vG .sh g,vJ j,.int .i64 (b.gone.length:Int)] []=some (.tup [vB (Bd g j b.gone.length),.int .i64 0],[]):=by
  have h:=MO hl j (b.gone.length:Int)
  rw[if_pos hg]at h
  rw[h];rfl
 have hlen:b.gone.length≤64:=by
  simp only[DC,Bool.and_eq_true,decide_eq_true_eq]at hg;omega
 have n54:=FU [vG .sh g,vJ j,vB b,Ht,vB (Bd g j b.gone.length)] rec
 have n55:Cl 55 [CP 5] [vG .sh g,vJ j,vB b,Ht,vB (Bd g j b.gone.length),BA rec 0,Ht]=some (.int .u64 69,[vG .sh g,vJ j,vB b,Ht,vB (Bd g j b.gone.length),BA s 0,Ht]):=by
  have:=G8 (h:=[vG .sh g,vJ j,vB b,Ht,vB (Bd g j b.gone.length),BA rec 0,Ht]) (id:=5) rfl hrec
  rw[h69]at this;exact this
 have n57:=AHl hl hg hs (vG .sh g) (vJ j) (vB b) Ht (vB (Bd g j b.gone.length)) Ht
 rw[L6]
 generalize BA (AP s 0).2.1 (AP s 0).2.2=i2 at*
 generalize Bd g j b.gone.length=nb at*
 simp only[List.length_cons,List.length_nil,Nat.zero_add,Nat.reduceAdd]at n54
 cases he:evB g j b s with
 |none=>
  rw[he]at n57
  simp only[ZH,Option.getD_none,Option.isSome_none,zB,List.map_nil]at n57⊢
  simp(disch:=first|assumption|omega|(with_reducible rfl)|(simp only[go_sem];done)|(simp only[go_sem];omega)|fail) only[↓reduceIte,↓AL,Nat.reduceAdd,go_sem,n54,n55,n57,hN,hr]
  rfl
 |some c=>
  rw[he]at n57
  simp only[ZH,Option.getD_some,Option.isSome_some]at n57⊢
  simp(disch:=first|assumption|omega|(with_reducible rfl)|(simp only[go_sem];done)|(simp only[go_sem];omega)|fail) only[↓reduceIte,↓AL,Nat.reduceAdd,go_sem,n54,n55,n57,hN,hr]
end
section
open Go AM
instance:Inhabited Msg:=⟨⟨0,0,0⟩⟩
def rowM (d:Array Msg):V:= .row 108 (d.toList.map Ah)
def winM (id n:Nat):V:= .win id [] 0 n 108
abbrev cm:V:= .clo 128 []
def AC1 (a b:Int):Int:=if a<b then -1 else if b<a then 1 else 0
def or3 (a b c:Int):Int:=if a≠0 then a else if b≠0 then b else c
def AQ9 (x y:Msg):Int:=or3 (AC1 x.to y.to) (AC1 x.fr y.fr) (AC1 x.val y.val)
def ltM (x y:Msg):Bool:=decide (AQ9 x y<0)
theorem AKw {B:Type} {k:IntKind} {a b:Int} (h:b<a) (K:V→Option B):(AO .gtr (.int k a) (.int k b)).bind K=K (.bool true):=by
 rw[b_gtr,Option.bind_some,decide_eq_true h]
theorem AKx {B:Type} {k:IntKind} {a b:Int} (h:¬b<a) (K:V→Option B):(AO .gtr (.int k a) (.int k b)).bind K=K (.bool false):=by
 rw[b_gtr,Option.bind_some,decide_eq_false h]
theorem ARA {B:Type} (b:Bool) (K:V→Option B):(un .not (.bool b)).bind K=K (.bool (!b)):=rfl
theorem UX (m:Msg):BJ P 108 (Ah m)=true:=by simp[BJ,Xx,Ah]
theorem ARB (n:Nat) (m:Msg):(Ah m).under n=true:=rfl
theorem fM {B:Type} {id:Nat} (j:Nat) {u:TypeId} {p:List Nat} (hj:[3,3,2][j]?=some u) (hu:P.cellsOf u≠0) (K:V→Option B):(Ap P 108 j (.ref id p 108)).bind K=K (.ref id (p++[j]) u):=
 AB (FT (P:=P) Xx hj hu id p) K
theorem AOb {B:Type} {h:List V} {id:Nat} {m:Msg} {x:Int} (j:Nat) (u:TypeId) (hj:[3,3,2][j]?=some u) (hu:P.cellsOf u≠0) (hh:h[id]?=some (Ah m)) (hx:[V.int .i64 m.fr,V.int .i64 m.to,V.int .i64 m.val][j]?=some (.int .i64 x)) (K:V→Option B):
 (Ap P 108 j (.ref id [] 108)).bind (fun t=>(AY h u t).bind K)=K (.int .i64 x):=by
 refine(fM j hj hu _).trans ?_
 exact AB (BG (J4 hh hx)) K
theorem AC2 {B:Type} {h:List V} {id:Nat} {m:Msg} (hh:h[id]?=some (Ah m)) (K:V→Option B):(Ap P 108 0 (.ref id [] 108)).bind (fun t=>(AY h 3 t).bind K)=K (.int .i64 m.fr):=AOb 0 _ rfl (by rw[ACd];decide) hh rfl K
theorem AC3 {B:Type} {h:List V} {id:Nat} {m:Msg} (hh:h[id]?=some (Ah m)) (K:V→Option B):(Ap P 108 1 (.ref id [] 108)).bind (fun t=>(AY h 3 t).bind K)=K (.int .i64 m.to):=AOb 1 _ rfl (by rw[ACd];decide) hh rfl K
theorem AAC {B:Type} {h:List V} {id:Nat} {m:Msg} (hh:h[id]?=some (Ah m)) (K:V→Option B):(Ap P 108 2 (.ref id [] 108)).bind (fun t=>(AY h 2 t).bind K)=K (.int .i64 m.val):=AOb 2 _ rfl (by rw[APq];decide) hh rfl K
theorem V7 {B:Type} (b:Bool) (x y:Option B):V.ite (.bool b) x y=if b=true then x else y:=by cases b<;>rfl
theorem AOc {B:Type} (a b:V) (K:V→Option B):(ext (.tup [a,b]) 0).bind K=K a:=rfl
theorem AOd {B:Type} (a b:V) (K:V→Option B):(ext (.tup [a,b]) 1).bind K=K b:=rfl
theorem cmp_neg (x y:Msg):ltM x y=true↔(x.to<y.to∨(x.to=y.to∧(x.fr<y.fr∨(x.fr=y.fr∧x.val<y.val)))):=by
 simp only[ltM,AQ9,or3,AC1,decide_eq_true_eq]
 rcases Int.lt_trichotomy x.to y.to with h|h|h
 ·simp[h]
 ·rcases Int.lt_trichotomy x.fr y.fr with g|g|g
  ·simp[h,g]
  ·rcases Int.lt_trichotomy x.val y.val with k|k|k
   ·simp[h,g,k]
   ·simp[h,g,k]
   ·have n:¬x.val<y.val:=by omega
    simp[h,g,k,n]
  ·have n:¬x.fr<y.fr:=by omega
   have n2:¬x.fr=y.fr:=by omega
   simp[h,g,n,n2]
 ·have n:¬x.to<y.to:=by omega
  have n2:¬x.to=y.to:=by omega
  simp[h,n,n2]
def H7 (f:Fl) (l:List Msg):V:= .lst 108 f (l.map Ah)
def Du (l:List Msg):List Msg:=l.mergeSort (fun x y=> !ltM y x)
theorem Qz:∀l:List Msg,AV (l.map Ah)=true
 |[]=>rfl
 |x::l=>by simp only[List.map_cons,AV,Qz l];rfl
theorem AC4:∀l:List Msg,AU (l.map Ah)=l.map Ah
 |[]=>rfl
 |x::l=>by simp only[List.map_cons,AU,AC4 l];rfl
theorem Yd (l:List Msg):F8 P 108 (l.map Ah)=true:=by simp[F8,UX]
def Oc (m:Msg):Int×Int×Int:=(m.fr,m.to,m.val)
theorem Zx (x y:Msg):decide (SE 2 (Oc x) (Oc y)<0)=ltM x y:=by
 have hr:∀z,Oo 2 z=true:=fun _=>rfl
 rw[Bool.eq_iff_iff,decide_eq_true_eq,cmp_neg]
 unfold SE cl3
 rw[if_pos (hr _),if_pos (hr _),AHD (by decide)]
 simp only[Oc]
theorem AKy (x y:Int×Int×Int) (h1:decide (SE 2 x y<0)=false) (h2:decide (SE 2 y x<0)=false):x=y:=by
 have hr:∀z,Oo 2 z=true:=fun _=>rfl
 rw[decide_eq_false_iff_not]at h1 h2
 unfold SE cl3 at h1 h2
 rw[if_pos (hr _),if_pos (hr _),AHD (by decide)]at h1 h2
 obtain⟨a,b,c⟩:=x
 obtain⟨a',b',c'⟩:=y
 simp only at h1 h2
 rw[Prod.mk.injEq,Prod.mk.injEq]
 omega
theorem AOe (l:List Msg):EX 2 (l.map Oc)=(Du l).map Oc:=by
 have h:=YL 2 (l.map Oc)
 have e:=Sort.sorted_unique_holds (Ob 2) AKy _ _ h.1 h.2
 simp only[List.toList_toArray]at e
 rw[e,Du]
 refine(List.map_mergeSort fun a _ b _=> ?_).symm
 rw[←Zx]
theorem AHn:∀l:List Msg,(l.map Ah).all (i3t 107)=true
 |[]=>rfl
 |x::l=>by rw[List.map_cons,List.all_cons,AHn l];rfl
theorem AMB:∀l:List Msg,(l.map Ah).all (fun x=>Oo 2 (t3 x))=true
 |[]=>rfl
 |x::l=>by rw[List.map_cons,List.all_cons,AMB l];rfl
theorem ARC (l:List Msg):(l.map Ah).map t3=l.map Oc:=by rw[List.map_map];rfl
theorem ARD (l:List Msg):(l.map Oc).map (ZE 107)=l.map Ah:=by rw[List.map_map];rfl
theorem sort_aps {h:List V} {id:Nat} {l:List Msg} (hh:h[id]?=some (rowM l.toArray)) (hl:l.length≤1000000):
 aps 2000128 108 [winM id l.length,cm] h=some (.tup [],h.set id (rowM (Du l).toArray)):=by
 have hd:2000128/1000000=2:=rfl
 have tg:(l.map Ah).all (i3t (Uz (l.map Ah)))=true:=by
  cases l with
  |nil=>rfl
  |cons x l=>exact AHn (x::l)
 have mk:((EX 2 (l.map Oc)).map (ZE (Uz (l.map Ah))))=(Du l).map Ah:=by
  rw[AOe]
  cases l with
  |nil=>rw[show Du []=[]from by simp[Du]];rfl
  |cons x l=>exact ARD _
 simp only[aps,winM,rowM]at hh⊢
 have e1:Nat.beq l.length (l.map Ah).length=true:=by simp
 have e2:Nat.ble (l.map Ah).length Dh=true:=by simp[Dh,Nat.ble_eq];omega
 simp only[hh,hd]
 rw[if_pos (by simp only[tg,AMB,e1,e2];rfl),ARC,mk]
theorem AOf {B:Type} (f:Fl) (l:List Msg) (hl:l.length≤1000000) (k:V×List V→Option B):
 ((DW P 31 [] (.lst 108 .nil []) (H7 f l)).bind fun v=>(DV [] v).bind k)=k (winM 0 l.length,[rowM l.toArray]):=by
 cases l with
 |nil=>
  refine(AB (show DW P 31 [] (.lst 108 .nil []) (H7 f [])=some (.lst 108 .nil [])by simp[DW,Xw,H7,Ad,AV,F8,Dh,DJ,Vh]) _).trans ?_
  rfl
 |cons x t=>
  refine(AB (Zl Xw (Or.inr rfl) (y:=H7 f (x::t)) (ys:=(x::t).map Ah) rfl (Qz _) (Yd _) (by simp;simp at hl;omega) Vh (fun _=>rfl)) _).trans ?_
  rw[List.nil_append]
  exact AB (show DV [] (.lst 108 .own ((x::t).map Ah))=some (winM 0 (x::t).length,[rowM (x::t).toArray])by simp[DV,winM,rowM]) _
theorem AAD (l:List Msg):(Du l).length=l.length:=by rw[Du,List.length_mergeSort]
theorem AC5 (f:Fl) (l:List Msg) (hl:l.length≤1000000):Cl 106 [H7 f l] []=some (H7 .sh (Du l),[]):=by
 rw[AI8,ABD,ABE]
 refine(AOf f l hl _).trans ?_
 rw[ABF]
 refine(AB (sort_aps (h:=[rowM l.toArray]) (id:=0) rfl hl) _).trans ?_
 rw[ABG]
 have c:Ad [rowM (Du l).toArray] (winM 0 l.length)=some ((Du l).map Ah):=by
  simp[Ad,winM,rd,V.at,V.items,rowM]
  rw[←AAD l];exact List.take_of_length_le (by simp)
 have u:(winM 0 l.length).unmut [rowM (Du l).toArray]= .lst 108 .sh ((Du l).map Ah):=by
  rw[winM]at c⊢
  simp only[V.unmut,c,Qz,AC4,if_true]
 show AQ 0 [rowM (Du l).toArray] (winM 0 l.length)=_
 simp only[AQ,u]
 rfl
end
section
open Go AM
def MOk (m:Msg):Prop:=I64 m.fr∧I64 m.to∧I64 m.val
def rowB (m:Msg):List UInt8:=if m.fr<0∨m.to<0 then[]else BR m.fr.toNat++BR m.to.toNat++BR (Lm m.val)
theorem AHo (m:Msg):(rowB m).length≤30:=by
 have a:=Aq 10 m.fr.toNat;have b:=Aq 10 m.to.toNat;have c:=Aq 10 (Lm m.val)
 simp only[rowB];split
 ·simp
 ·simp only[List.length_append,BR];omega
theorem UY (h:List V):∀l:List Msg,AA h (l.map Ah)=l.map Ah
 |[]=>rfl
 |x::l=>by simp only[List.map_cons,AA,UY h l];rfl
theorem AHp (h:List V) (f:Fl) (l:List Msg):∃g,V.reify h (H7 f l)=H7 g l:=by
 cases f<;>simp only[H7,V.reify,UY]<;>exact⟨_,rfl⟩
theorem Gu (h:List V) (f:Fl) (l:List Msg):∃g,AA h [H7 f l]=[H7 g l]:=by
 obtain⟨g,hg⟩:=AHp h f l;exact⟨g,by simp only[AA,hg]⟩
theorem AKz (f:Fl) (l:List Msg):∃g,(H7 f l).weak=H7 g l:=IL
theorem AOg {m:Msg} (hm:MOk m):Cl 107 [Ah m] []=some (.str (rowB m),[]):=by
 obtain⟨h1,h2,h3⟩:=hm
 have c1:(BJ P 108 (Ah m)&&V.under (List.length ([]:List V)) (Ah m))=true:=by rw[UX,ARB];rfl
 have g0:([]++[Ah m]:List V)[0]?=some (Ah m):=rfl
 rw[AI9,ABH,if_pos c1,ABJ]
 refine(AC2 g0 _).trans ?_
 by_cases hf:m.fr<0
 ·refine(EY hf _).trans ?_
  rw[Au,Au,VQ,rowB,if_pos (Or.inl hf)];rfl
 refine(E8 hf _).trans ?_
 rw[A7]
 refine(AC3 g0 _).trans ?_
 by_cases ht:m.to<0
 ·refine(EY ht _).trans ?_
  rw[Au,VQ,rowB,if_pos (Or.inr ht)];rfl
 refine(E8 ht _).trans ?_
 rw[A7,ABK]
 refine(AB (JE _) _).trans ?_
 have g1:∀o:V,([]++[Ah m]++[o]:List V)[0]?=some (Ah m):=fun o=>rfl
 have o1:∀o:V,([]++[Ah m]++[o]:List V)[1]?=some o:=fun o=>rfl
 have st:∀o o':V,([]++[Ah m]++[o]:List V).set 1 o'=[]++[Ah m]++[o']:=fun o o'=>rfl
 have a:=Aq 10 m.fr.toNat;have b:=Aq 10 m.to.toNat;have c:=Aq 10 (Lm m.val)
 have nr:∀(x:Int) (k:IntKind),AU [Dy ([]++[Ah m]:List V).length,.int k x]=[Dy 1,.int k x]:=fun x k=>rfl
 rw[ABL]
 refine(AC2 (g1 _) _).trans<|(YQ (by omega) h1.2 _).trans ?_
 rw[nr]
 refine(AB (EZ (o1 _) (Or.inr rfl) (by have:=h1.2;omega) (by simp)) _).trans ?_
 rw[st,ABM]
 refine(AC3 (g1 _) _).trans<|(YQ (by omega) h2.2 _).trans ?_
 rw[nr]
 refine(AB (EZ (o1 _) (Or.inl rfl) (by have:=h2.2;omega) (by simp only[BR,List.length_append,List.length_nil];omega)) _).trans ?_
 rw[st,ABN]
 refine(AAC (g1 _) _).trans ?_
 rw[nr]
 refine(AB (UG (o1 _) (Or.inl rfl) h3.1 h3.2 (by simp only[BR,List.length_append,List.length_nil];omega)) _).trans ?_
 rw[st,ABO]
 refine(AB (G9 (o1 _)) _).trans ?_
 rw[F9,rowB,if_neg (by omega)]
 simp
theorem UZ:∀(n:Nat) (l:List Msg),Ac n (l.map Ah)=true
 |_,[]=>rfl
 |n,x::l=>by simp only[List.map_cons,Ac,UZ n l];rfl
theorem Q7 (n:Nat) (f:Fl) (l:List Msg):(H7 f l).under n=true:=by cases f<;>first|rfl|exact UZ n l
theorem AHq {l:List Msg} {i:Nat} (hi:i<l.length):(l.map Ah)[i]?=some (Ah l[i]):=by simp[hi]
theorem AK0 (l:List Msg) (hl:∀m∈l,MOk m) (hn:l.length≤1000000) (g:Fl):∀(n i:Nat) (f:Fl) (done:List (List UInt8)),i+n=l.length→OK f→done.length=i→
 VK (sL f done) (H7 g l) (iv l.length) (iv i) []=some (sL .sh (done++(l.drop i).map rowB),[]):=by
 intro n
 induction n with
 |zero=>
  intro i f done hi hf hd
  rw[Tc,ZV]
  refine(E8 (by omega) _).trans ?_
  rw[A7,AFq,AOJ 0 [] f (by rcases hf with rfl|rfl<;>(intro h;cases h)),List.drop_eq_nil_of_le (by omega)]
  simp
 |succ n ih=>
  intro i f done hi hf hd
  have hlt:i<l.length:=by omega
  rw[Tc,ZV]
  refine(EY (by omega) _).trans ?_
  rw[Au,AFn]
  refine(ADh Xw (AHq hlt) _).trans<|(ldR _).trans ?_
  refine(AB (CB (P:=P) (h:=[]++[zero P 108]) (id:=0) rfl (UX _) rfl) _).trans ?_
  rw[AFo]
  refine(AB (BG (v:=Ah l[i]) (CS rfl)) _).trans ?_
  refine(AB (AOg (hl _ (List.getElem_mem hlt))) _).trans ?_
  refine(AQt hf (by omega) _ _).trans ?_
  rw[AFp]
  refine(FC (b:=1) (by omega) _).trans ?_
  have u:Ac (List.length ([]:List V)) [sL .own (done++[rowB l[i]]),H7 g l,iv l.length,iv (i+1)]=true:=by
   simp only[Ac,AHK,Q7];rfl
  refine(if_pos u).trans ?_
  have:=ih (i+1) .own (done++[rowB l[i]]) (by omega) (Or.inl rfl) (by simp[hd])
  rw[List.append_assoc]at this
  rw[List.drop_eq_getElem_cons hlt,List.map_cons]
  exact this
theorem AD7 {l:List Msg} {m:Msg}:m∈Du l↔m∈l:=List.mem_mergeSort
theorem JJ (l:List Msg):(Du l).length=l.length:=List.length_mergeSort l
def NV (l:List Msg):List (List UInt8):=(Du l).map rowB
theorem AK1 {f:Fl} {l:List Msg} (hl:∀m∈l,MOk m) (hn:l.length≤1000000):Cl 75 [H7 f l] []=some (sL .sh (NV l),[]):=by
 rw[AM7,AFk,AFl,AFm]
 obtain⟨g,hg⟩:=Gu [] f l
 rw[hg]
 refine(AB (AC5 g l hn) _).trans ?_
 refine(ADg Vg _).trans ?_
 have:=AK0 (Du l) (fun m hm=>hl m (AD7.1 hm)) (by rw[JJ];exact hn) .sh (Du l).length 0 .nil [] (by omega) (Or.inr rfl) rfl
 rw[List.drop_zero,List.nil_append]at this
 rw[List.length_map]
 exact this
end
section
open Go AM
def inR (x:Int):Bool:=decide (0≤x)&&decide (x<64)
def mR (m:Msg):Bool:=inR m.fr&&inR m.to&&decide (m.val≤1125899906842624)&&decide (-1125899906842624≤m.val)
def AHr (a b:Msg):Bool:=decide (a.fr=b.fr)&&decide (a.to=b.to)
def Hg (l:List Msg):Nat→Nat→Bool
 |0,_=>true
 |n+1,i=> !(decide (0<i)&&AHr (l.getD (i-1) default) (l.getD i default))&&mR (l.getD i default)&&Hg l n (i+1)
def SL (l:List Msg):Bool:=decide (l.length≤512)&&Hg (Du l) l.length 0
theorem AMC (x:Int):Cl 105 [.int .i64 x] []=some (.bool (inR x),[]):=by
 rw[AI7,ABB,ABC]
 by_cases h:0≤x
 ·refine(ANs h _).trans ?_
  rw[Au]
  refine(AB (b_lss _ _ _) _).trans ?_
  rw[inR,decide_eq_true h];rfl
 ·refine(ANt h _).trans ?_
  rw[A7,inR,decide_eq_false h];rfl
abbrev cc:V:= .clo 105 []
theorem AOi {h:List V} {id:Nat} {m:Msg} (hh:h[id]?=some (Ah m)) (dup:Bool) (K:V→List V→Option (V×List V)):
 ZU cc (.ref id [] 108) (.bool dup) h K=K (.bool (!mR m||dup)) h:=by
 rw[ZU]
 refine(AC2 hh _).trans ?_
 refine(OU (f:=105) (cs:=[]) _ (by kernel_rfl) (by kernel_rfl)).trans ?_
 refine(AB (AMC m.fr) _).trans ?_
 refine(if_pos rfl).trans<|(ARA _ _).trans ?_
 rw[V7]
 by_cases h1:inR m.fr=true
 ·rw[if_neg (by simp[h1])]
  refine(AC3 hh _).trans ?_
  refine(OU (f:=105) (cs:=[]) _ (by kernel_rfl) (by kernel_rfl)).trans ?_
  refine(AB (AMC m.to) _).trans ?_
  refine(if_pos rfl).trans<|(ARA _ _).trans ?_
  rw[V7]
  by_cases h2:inR m.to=true
  ·rw[if_neg (by simp[h2])]
   refine(AAC hh _).trans ?_
   by_cases h3:m.val≤1125899906842624
   ·refine(AKx (by omega) _).trans ?_
    rw[A7]
    refine(AAC hh _).trans ?_
    by_cases h4: -1125899906842624≤m.val
    ·refine(E8 (by omega) _).trans ?_
     rw[A7];simp[mR,h1,h2,h3,h4]
    ·refine(EY (by omega) _).trans ?_
     rw[Au];simp[mR,h4]
   ·refine(AKw (by omega) _).trans ?_
    rw[Au];simp[mR,h3]
  ·rw[if_pos (by simp[h2])];simp[mR,h2]
 ·rw[if_pos (by simp[h1])];simp[mR,h1]
theorem ARF {B:Type} {h:List V} {m:Msg} {x:Int} (j:Nat) (u:TypeId) (hj:[3,3,2][j]?=some u) (hu:P.cellsOf u≠0) (hx:[V.int .i64 m.fr,V.int .i64 m.to,V.int .i64 m.val][j]?=some (.int .i64 x)) (K:V→Option B):
 (Ap P 108 j (.rop 108 (Ah m))).bind (fun t=>(AY h u t).bind K)=K (.int .i64 x):=by
 refine(AB (show Ap P 108 j (.rop 108 (Ah m))=some (.rop u (.int .i64 x))by simp[Ap,Xx,hj,hu,Ah,hx]) _).trans ?_
 exact ldR K
theorem ARH {B:Type} {h:List V} {m:Msg} (K:V→Option B):(Ap P 108 0 (.rop 108 (Ah m))).bind (fun t=>(AY h 3 t).bind K)=K (.int .i64 m.fr):=ARF 0 _ rfl (by rw[ACd];decide) rfl K
theorem ARI {B:Type} {h:List V} {m:Msg} (K:V→Option B):(Ap P 108 1 (.rop 108 (Ah m))).bind (fun t=>(AY h 3 t).bind K)=K (.int .i64 m.to):=ARF 1 _ rfl (by rw[ACd];decide) rfl K
theorem Oh {l:List Msg} {i:Nat} (hi:i<l.length):(l.map Ah)[i]?=some (Ah (l.getD i default)):=by
 rw[AHq hi,List.getD_eq_getElem?_getD,List.getElem?_eq_getElem hi];rfl
theorem AOj {h:List V} {id i:Nat} {g:Fl} {l:List Msg} {m:Msg} (hh:h[id]?=some (Ah m)) (hi:i<l.length) (hn:l.length≤1000000) (K:V→Option (V×List V)):
 ZT (H7 g l) (iv i) (.ref id [] 108) h K=K (.bool (decide (0<i)&&AHr (l.getD (i-1) default) m)):=by
 rw[ZT]
 by_cases h0:0<i
 ·refine(AKw (by omega) _).trans ?_
  rw[Au]
  refine(IK (b:=1) (by omega) (by omega) _).trans<|(ADi Xw (Oh (i:=i-1) (by omega)) _).trans<|(ARH _).trans<|(AC2 hh _).trans ?_
  by_cases h1:(l.getD (i-1) default).fr=m.fr
  ·refine(ASt h1 _).trans ?_
   rw[Au]
   refine(IK (b:=1) (by omega) (by omega) _).trans<|(ADi Xw (Oh (i:=i-1) (by omega)) _).trans<|(ARI _).trans<|(AC3 hh _).trans ?_
   refine(AB (b_eql _ _ _) _).trans ?_
   rw[AHr,decide_eq_true h0,decide_eq_true h1];rfl
  ·refine(ASu h1 _).trans ?_
   rw[A7,AHr,decide_eq_false h1];simp
 ·refine(AKx (by omega) _).trans ?_
  rw[A7,decide_eq_false h0];rfl
theorem AOk (l:List Msg) (hn:l.length≤1000000) (g g':Fl):∀(n i:Nat),i+n=l.length→
 VJ cc (H7 g l) (H7 g' l) (iv l.length) (iv i) []=some (iv (if Hg l n i=true then 0 else 110),[]):=by
 intro n
 induction n with
 |zero=>
  intro i hi
  rw[TY,ZR]
  refine(E8 (by omega) _).trans ?_
  rw[A7,AAq,EK];rfl
 |succ n ih=>
  intro i hi
  have hlt:i<l.length:=by omega
  rw[TY,ZR]
  refine(EY (by omega) _).trans ?_
  rw[Au,AFj]
  refine(ADh Xw (Oh hlt) _).trans<|(ldR _).trans ?_
  refine(AB (CB (P:=P) (h:=[]++[zero P 108]) (id:=0) rfl (UX _) rfl) _).trans ?_
  generalize hm:l.getD i default=m
  have hh:(([]++[zero P 108]:List V).set 0 (Ah m))[0]?=some (Ah m):=rfl
  refine(AOj (id:=0) hh hlt hn _).trans ?_
  refine(AOi (id:=0) hh _ _).trans ?_
  rw[V7,Hg,hm]
  generalize (decide (0<i)&&AHr (l.getD (i-1) default) m)=db at*
  by_cases hb:(!mR m||db)=true
  ·rw[if_pos hb,AAo,EK]
   have e:(!db&&mR m&&Hg l n (i+1))=false:=by
    cases h1:mR m<;>cases h2:db<;>simp[h1,h2]at hb⊢
   rw[e];rfl
  ·rw[if_neg hb,AAp]
   refine(FC (b:=1) (by omega) _).trans ?_
   have u:Ac (List.length ([]:List V)) [cc,H7 g l,H7 g' l,iv l.length,iv (i+1)]=true:=by
    simp only[Ac,Q7];rfl
   refine(if_pos u).trans ?_
   have e:(!db&&mR m&&Hg l n (i+1))=Hg l n (i+1):=by
    cases h1:mR m<;>cases h2:db<;>simp[h1,h2]at hb⊢
   rw[e]
   exact ih (i+1) (by omega)
theorem AHs {f:Fl} {l:List Msg} (hn:l.length≤1000000):Cl 74 [H7 f l] []=some (iv (if SL l=true then 0 else 110),[]):=by
 rw[AM6,AFd,AFe,AFf]
 refine(Zk Vg _).trans ?_
 rw[List.length_map]
 by_cases h:l.length≤512
 ·refine(AKx (by omega) _).trans ?_
  rw[A7,AFh]
  obtain⟨g,hg⟩:=Gu [] f l
  rw[hg]
  refine(AB (AC5 g l hn) _).trans ?_
  rw[AFi]
  refine(Zk Vg _).trans ?_
  rw[List.length_map]
  refine(AOk (Du l) (by rw[JJ];exact hn) .sh .sh (Du l).length 0 (by omega)).trans ?_
  rw[SL,decide_eq_true h,JJ,Bool.true_and]
 ·refine(AKw (by omega) _).trans ?_
  rw[Au,AFg,EK,SL,decide_eq_false h];rfl
def AOl (s:List UInt8):List UInt8:=BR s.length++s
def AD8 (l:List Msg):List UInt8:=BR l.length++((NV l).map AOl).flatten
theorem AHt (n:Nat) (h:List V) (s:List UInt8) (x:Int):(if(List.all [V.int .i64 x,V.str s] V.okE)=true then AQ n h (V.tup [.str s,.int .i64 x])else none)=some (.tup [.str s,.int .i64 x],h.take n):=rfl
theorem AOm (rs:List (List UInt8)) (hr:∀r∈rs,r.length≤100) (hn:rs.length≤1000000):∀(n i:Nat) (done:List UInt8),i+n=rs.length→done.length≤200*i+100→
 VF (Dy 0) (sL .sh rs) (iv rs.length) (iv i) [Bg .own done]=some (.tup [.str (done++((rs.drop i).map AOl).flatten),.int .i64 0],[]):=by
 intro n
 induction n with
 |zero=>
  intro i done hi hd
  rw[TT,ZQ]
  refine(E8 (by omega) _).trans ?_
  rw[A7,AAn]
  refine(AB (G9 (id:=0) (h:=[Bg .own done]) rfl) _).trans ?_
  refine(AHt _ _ _ _).trans ?_
  rw[List.drop_eq_nil_of_le (by omega)];simp
 |succ n ih=>
  intro i done hi hd
  have hlt:i<rs.length:=by omega
  have hg:(rs.map V.str)[i]?=some (V.str rs[i]):=by simp[hlt]
  have hl:=hr _ (List.getElem_mem hlt)
  have nb:=Aq 10 rs[i].length
  rw[TT,ZQ]
  refine(EY (by omega) _).trans ?_
  rw[Au,AFM]
  refine(ADh AJg hg _).trans<|(ldR _).trans ?_
  rw[AFN]
  have e1:AU [Dy 0,V.str rs[i]]=[Dy 0,V.str rs[i]]:=rfl
  rw[e1]
  refine(AB (Zv (id:=0) (h:=[Bg .own done]) rfl (Or.inl rfl) (by omega)) _).trans ?_
  rw[AAm]
  refine(FC (b:=1) (by omega) _).trans ?_
  have:=ih (i+1) (done++BR rs[i].length++rs[i]) (by omega) (by simp only[List.length_append,BR];omega)
  rw[List.drop_eq_getElem_cons hlt,List.map_cons,List.flatten_cons,AOl]
  simp only[List.append_assoc]at this⊢
  exact this
theorem AOn {f:Fl} {l:List Msg} (hl:∀m∈l,MOk m) (hn:l.length≤1000000):
 Cl 49 [H7 f l] []=some (if SL l=true then .tup [.str (AD8 l),.int .i64 0]else .tup [.str [],.int .i64 110],[]):=by
 rw[AMs,AFF,AFG]
 obtain⟨g0,hg0⟩:=AKz f l
 obtain⟨g,hg⟩:=Gu [] g0 l
 rw[hg0,hg]
 refine(AB (AHs hn) _).trans ?_
 rw[AFH]
 by_cases hc:SL l=true
 ·rw[if_pos hc,if_pos hc]
  refine(Zq (by simp) _).trans ?_
  rw[A7,AFJ]
  refine(AB (JE _) _).trans ?_
  rw[AFK,hg0]
  refine(ADg Vg _).trans ?_
  rw[List.length_map]
  refine(YQ (by omega) (by omega) _).trans ?_
  have e1:AU [Dy ([]:List V).length,V.int .u64 ((l.length:Int).toNat:Int)]=[Dy 0,V.int .u64 (l.length:Int)]:=rfl
  rw[e1]
  have nb:=Aq 10 l.length
  refine(AB (EZ (id:=0) (h:=[]++[Bg .nil []]) rfl (Or.inr rfl) (by omega) (by simp)) _).trans ?_
  rw[AFL]
  obtain⟨g2,hg2⟩:=Gu (([]++[Bg .nil []]).set 0 (Bg .own ([]++BR l.length))) f l
  rw[hg2]
  refine(AB (AK1 hl hn) _).trans ?_
  refine(ADg ANZ _).trans ?_
  have hlen:(NV l).length=l.length:=by rw[NV,List.length_map,JJ]
  have:=AOm (NV l) (by
   intro r hr
   rw[NV]at hr
   obtain⟨m,_,rfl⟩:=List.mem_map.1 hr
   have:=AHo m;omega) (by omega) (NV l).length 0 (BR l.length) (by omega) (by rw[BR];omega)
  rw[List.drop_zero]at this
  rw[List.length_map]
  exact this
 ·rw[if_neg hc,if_neg hc]
  refine(Zp (by simp) _).trans ?_
  rw[Au,AFI]
  exact AHt _ _ _ _
end
section
open Go AM
def V8 (s0:List UInt8):Nat→List Msg→List UInt8→List Msg×Nat
 |0,acc,s=>if FB s 0≠0 then([],FB s 0)else if SL acc=true∧AD8 acc=s0 then(acc,0)else([],110)
 |n+1,acc,s=>if(textIn 40 s 0).2.2≠0 then([],(textIn 40 s 0).2.2)else
   if(Jl (textIn 40 s 0).1).2≠0 then([],(Jl (textIn 40 s 0).1).2)else V8 s0 n (acc++[(Jl (textIn 40 s 0).1).1]) (textIn 40 s 0).2.1
def Q8 (s:List UInt8):List Msg×Nat:=
 if(AP s 0).2.2≠0 then([],(AP s 0).2.2)else if(AP s 0).1>512 then([],110)else V8 s (AP s 0).1 [] (AP s 0).2.1
theorem Ic {n:Nat} {h:List V} {f:Fl} (hf:f≠ .lent) {l:List Msg} {x:Int}:(if(List.all [V.int .i64 x,H7 f l] V.okE)=true then AQ n h (V.tup [H7 f l,.int .i64 x])else none)=some (.tup [H7 .sh l,.int .i64 x],h.take n):=by
 cases f<;>first|exact absurd rfl hf|rfl
theorem AHu (s:List UInt8):MOk (Jl s).1:=by
 have c:∀n:Nat,I64 (EC n):=fun n=>by simp only[I64,EC];omega
 have z:∀n:Nat,n<18446744073709551616→I64 (zz n):=fun n hn=>by simp only[I64,zz];split<;>omega
 exact⟨c _,c _,z _ (IY _ _)⟩
theorem ARJ {B:Type} {f:Fl} {h:List V} {l:List Msg} (hf:OK f) (hl:l.length+1≤2147483648) (x:Msg) (K':V→Option B):
 (Bv P 31 1 [(0,Ah x)]).bind (fun y=>(DW P 31 h (H7 f l) y).bind K')=K' (H7 .own (l++[x])):=by
 refine(AB (ACl Xw (UX x) rfl Vh ⟨_,rfl⟩) _).trans ?_
 refine(AB (Zl Xw hf (y:=V.lst 108 .own [Ah x]) rfl rfl (Yd [x]) (by simpa using hl) Vh) _).trans ?_
 rw[H7,List.map_append];rfl
theorem AOo {f:Fl} (hf:OK f) (l:List Msg):∃g,g≠ .lent∧(H7 f l).weak=H7 g l:=by
 rcases hf with rfl|rfl
 ·exact⟨.sh,(by intro h;cases h),rfl⟩
 ·exact⟨.nil,(by intro h;cases h),rfl⟩
theorem ATf {f:Fl} (hf:OK f):f≠ .lent:=by rcases hf with rfl|rfl<;>(intro h;cases h)
theorem sNe {B:Type} (a b:List UInt8) (K:V→Option B):(AO .neq (.str a) (.str b)).bind K=K (.bool (decide (a≠b))):=by
 rw[s_neq];rfl
theorem Q9 (m:Nat) (s:List UInt8):(textIn m s 0).2.1.length≤s.length:=by
 simp only[textIn]
 split
 ·simp
 ·split<;>simp
theorem NW (m:Nat) (s:List UInt8):(textIn m s 0).1.length≤m:=by
 simp only[textIn,Gn]
 split
 ·simp
 ·split
  ·simp
  ·split
   ·simp
   ·split
    ·simp
    ·simp only[List.length_take];omega
theorem AOp (s0:List UInt8) (cnt:Nat) (hc:cnt≤512):∀(n i:Nat) (f:Fl) (acc:List Msg) (s:List UInt8),i+n=cnt→OK f→acc.length=i→(∀m∈acc,MOk m)→s.length<1000000000→
 MB (.str s0) (CP 0) (H7 f acc) (.int .u64 (cnt:Int)) (.int .u64 (i:Int)) [BA s 0]=some (.tup [H7 .sh (V8 s0 n acc s).1,iv (V8 s0 n acc s).2],[]):=by
 intro n
 induction n with
 |zero=>
  intro i f acc s hi hf ha hm hl
  rw[Tf,Zc]
  refine(E8 (by omega) _).trans ?_
  rw[A7,AA2]
  have e1:AU [CP 0]=[CP 0]:=rfl
  rw[e1]
  refine(AB (Vm (h:=[BA s 0]) (id:=0) rfl) _).trans ?_
  rw[AA3,V8]
  by_cases he:FB s 0≠0
  ·refine(Zp (by omega) _).trans ?_
   rw[Au,AA4,if_pos he]
   exact Ic (f:= .nil) (l:=[]) (by intro h;cases h)
  refine(Zq (by omega) _).trans ?_
  rw[A7,AA5,if_neg he]
  obtain⟨g0,hg0n,hg0⟩:=AOo hf acc
  obtain⟨g,hg⟩:=Gu [BA s 0] g0 acc
  rw[hg0,hg]
  refine(AB (AOn hm (by omega)) _).trans ?_
  by_cases hk:SL acc=true
  ·rw[if_pos hk]
   refine(AOc _ _ _).trans<|(AOd _ _ _).trans ?_
   rw[VO]
   refine(Zq (by simp) _).trans ?_
   rw[A7]
   refine(sNe _ _ _).trans ?_
   rw[V7]
   by_cases hp:AD8 acc=s0
   ·rw[if_neg (by simp[hp]),AA6,show(if SL acc=true∧AD8 acc=s0 then(acc,0)else(([],110):List Msg×Nat))=(acc,0)from if_pos ⟨hk,hp⟩]
    exact Ic (ATf hf)
   ·rw[if_pos (by simp[hp]),VP,show(if SL acc=true∧AD8 acc=s0 then(acc,0)else(([],110):List Msg×Nat))=([],110)from if_neg (fun h=>hp h.2)]
    exact Ic (f:= .nil) (l:=[]) (by intro h;cases h)
  ·rw[if_neg hk]
   refine(AOc _ _ _).trans<|(AOd _ _ _).trans ?_
   rw[VO]
   refine(Zp (by simp) _).trans ?_
   rw[Au,Au,VP,show(if SL acc=true∧AD8 acc=s0 then(acc,0)else(([],110):List Msg×Nat))=([],110)from if_neg (fun h=>hk h.1)]
   exact Ic (f:= .nil) (l:=[]) (by intro h;cases h)
 |succ n ih=>
  intro i f acc s hi hf ha hm hl
  rw[Tf,Zc]
  refine(EY (by omega) _).trans ?_
  rw[Au,AAu]
  have e1:AU [CP 0,V.int .i64 40]=[CP 0,V.int .i64 40]:=rfl
  have e2:AU [CP 0]=[CP 0]:=rfl
  rw[e1]
  refine(AB (Vr (h:=[BA s 0]) (id:=0) 40 (by omega) rfl (by omega)) _).trans ?_
  rw[AAv,e2,V8]
  have tl:=Q9 40 s
  have tl1:=NW 40 s
  generalize textIn 40 s 0=t at*
  refine(AB (QT (h:=[BA s 0].set 0 (BA t.2.1 t.2.2)) (id:=0) rfl) _).trans ?_
  by_cases he:t.2.2≠0
  ·refine(Zp (by omega) _).trans ?_
   rw[Au,AAw,e2,if_pos he]
   refine(AB (QT (h:=[BA s 0].set 0 (BA t.2.1 t.2.2)) (id:=0) rfl) _).trans ?_
   exact Ic (f:= .nil) (l:=[]) (by intro h;cases h)
  refine(Zq (by omega) _).trans ?_
  rw[A7,AAx,if_neg he]
  have mo:=AHu t.1
  refine(AB (AAB t.1 (by omega)) _).trans<|(AOc _ _ _).trans<|(AOd _ _ _).trans ?_
  generalize Jl t.1=m at*
  have he0:t.2.2=0:=by omega
  refine(AB (CB (P:=P) (h:=[BA t.2.1 t.2.2]++[zero P 108]) (id:=1) rfl (UX _) rfl) _).trans ?_
  rw[AAy]
  by_cases hm2:m.2≠0
  ·refine(Zp (by omega) _).trans ?_
   rw[Au,AAz,if_pos hm2]
   exact Ic (f:= .nil) (l:=[]) (by intro h;cases h)
  refine(Zq (by omega) _).trans ?_
  rw[A7,AA0,if_neg hm2]
  refine(AB (BG (v:=Ah m.1) (CS rfl)) _).trans ?_
  refine(ARJ hf (by omega) _ _).trans ?_
  rw[AA1]
  refine(Ew (b:=1) (by omega) _).trans ?_
  have u:Ac (List.length [BA s 0]) [V.str s0,CP 0,H7 .own (acc++[m.1]),.int .u64 (cnt:Int),.int .u64 ((i+1:Nat):Int)]=true:=by
   simp only[Ac,Q7];rfl
  refine(if_pos u).trans ?_
  have:=ih (i+1) .own (acc++[m.1]) t.2.1 (by omega) (Or.inl rfl) (by simp[ha]) (by
   intro x hx;rcases List.mem_append.1 hx with hx|hx
   ·exact hm x hx
   ·rw[List.mem_singleton.1 hx];exact mo) (by omega)
  show MB _ _ _ _ _ [BA t.2.1 t.2.2]=_
  rw[he0]
  exact this
theorem AOq {s:List UInt8} (hl:s.length<1000000000):Cl 85 [.str s] []=some (.tup [H7 .sh (Q8 s).1,iv (Q8 s).2],[]):=by
 have e0:AU [V.str s]=[V.str s]:=rfl
 have e2:AU [CP ([]:List V).length]=[CP 0]:=rfl
 rw[ANF,AGH,AGI,e0]
 refine(AB (FU [] s) _).trans ?_
 rw[AGJ,e2]
 refine(AB (G8 (h:=[BA s 0]) (id:=0) rfl (by omega)) _).trans ?_
 have nl:=Ea s 0
 have nlt:=IY s 0
 rw[AGK,e2,Q8]
 generalize AP s 0=a at*
 refine(AB (QT (h:=[BA s 0].set 0 (BA a.2.1 a.2.2)) (id:=0) rfl) _).trans ?_
 by_cases he:a.2.2≠0
 ·refine(Zp (by omega) _).trans ?_
  rw[Au,AGL,e2,if_pos he]
  refine(AB (QT (h:=[BA s 0].set 0 (BA a.2.1 a.2.2)) (id:=0) rfl) _).trans ?_
  exact Ic (f:= .nil) (l:=[]) (by intro h;cases h)
 refine(Zq (by omega) _).trans ?_
 rw[A7,AGM,if_neg he]
 by_cases h5:a.1>512
 ·refine(AKw (by omega) _).trans ?_
  rw[Au,AGN,if_pos h5]
  exact Ic (f:= .nil) (l:=[]) (by intro h;cases h)
 refine(AKx (by omega) _).trans ?_
 rw[A7,AGO,AGP,if_neg h5]
 have he0:a.2.2=0:=by omega
 show MB _ _ _ _ _ [BA a.2.1 a.2.2]=_
 rw[he0]
 exact AOp s a.1 (by omega) a.1 0 .nil [] a.2.1 (by omega) (Or.inr rfl) rfl (by intro m hm;cases hm) (by omega)
end
section
open Go AM
end
section
open Go AM
def AOr (l:List Msg):List UInt8:=YT (NV l)
end
section
open Go AM
@[go_sem] theorem AOs (l:List Msg):(AOr l).length=32:=UN _ _
end
section
open Go AM
theorem AC6 (a b:Msg):Jv (Ah a) (Ah b)=some (decide (a=b)):=by
 simp only[Ah,Jv,Lp,if_true,Option.bind_some]
 by_cases h1:a.fr=b.fr<;>by_cases h2:a.to=b.to<;>by_cases h3:a.val=b.val<;>cases a<;>cases b<;>simp_all
@[go_sem] theorem eqM (a b:Msg):U2 (BI 107) .eql (Ah a) (Ah b)=some (.bool (decide (a=b))):=by
  simp only[U2,YX,Bool.and_self,if_true,AC6,Option.map_some]
@[go_sem] theorem neM (a b:Msg):U2 (BI 107) .neq (Ah a) (Ah b)=some (.bool (!decide (a=b))):=by
  simp only[U2,YX,Bool.and_self,if_true,AC6,Option.map_some]
theorem V9 {l:List Msg} {i:Nat} (h:i<l.length):(l.map Ah)[i]?=some (Ah (l.getD i default)):=Oh h
theorem AK2 {f g:Fl} {l m:List Msg} (hlm:l.length=m.length) (hn:l.length≤1000000):∀(n i:Nat),i+n=l.length→
 VB (.lst 108 f (l.map Ah)) (.lst 108 g (m.map Ah)) (.int .i64 (i:Int))=some (.bool (decide (l.drop i=m.drop i)),[]):=by
 intro n
 induction n with
 |zero=>
  intro i hi
  rw[TQ,List.drop_eq_nil_of_le (by omega),List.drop_eq_nil_of_le (by omega)]
  simp(disch:=first|assumption|omega|(with_reducible rfl)|(simp only[go_sem];done)|(simp only[go_sem];omega)|fail) only[↓reduceIte,↓AL,Nat.reduceAdd,go_sem,decide_true]
 |succ n ih=>
  intro i hi
  have h1:i<l.length:=by omega
  have h2:i<m.length:=by omega
  have e1:l.getD i default=l[i]:=by rw[List.getD_eq_getElem?_getD,List.getElem?_eq_getElem h1];rfl
  have e2:m.getD i default=m[i]:=by rw[List.getD_eq_getElem?_getD,List.getElem?_eq_getElem h2];rfl
  rw[TQ,List.drop_eq_getElem_cons h1,List.drop_eq_getElem_cons h2]
  by_cases h:l[i]=m[i]
  ·simp(disch:=first|assumption|omega|(with_reducible rfl)|(simp only[go_sem];done)|(simp only[go_sem];omega)|fail) only[↓reduceIte,↓AL,Nat.reduceAdd,go_sem,V9 h1,V9 h2,e1,e2,h,ih (i+1) (by omega),List.cons.injEq,true_and]
  ·simp(disch:=first|assumption|omega|(with_reducible rfl)|(simp only[go_sem];done)|(simp only[go_sem];omega)|fail) only[↓reduceIte,↓AL,Nat.reduceAdd,go_sem,V9 h1,V9 h2,e1,e2,List.cons.injEq]
   rw[decide_eq_false (fun h'=>h h'.1)]
theorem AAE {f g:Fl} {l m:List Msg} (hn:l.length≤1000000) (hm:m.length≤1000000):
 Cl 38 [.lst 108 f (l.map Ah),.lst 108 g (m.map Ah)] []=some (.bool (decide (l=m)),[]):=by
 rw[AMk]
 by_cases h:l.length=m.length
 ·have:=AK2 (f:=f) (g:=g) h hn l.length 0 (by omega)
  simp(disch:=first|assumption|omega|(with_reducible rfl)|(simp only[go_sem];done)|(simp only[go_sem];omega)|fail) only[↓reduceIte,↓AL,Nat.reduceAdd,go_sem,h]
  exact this
 ·simp(disch:=first|assumption|omega|(with_reducible rfl)|(simp only[go_sem];done)|(simp only[go_sem];omega)|fail) only[↓reduceIte,↓AL,Nat.reduceAdd,go_sem]
  rw[decide_eq_false (fun e=>h (by rw[e]))]
end
section
open Go AM
theorem Oi {l:List (List UInt8)} {i:Nat} (h:i<l.length):(l.map V.str)[i]?=some (.str l[i]):=by simp[h]
end
section
open Go AM
structure Vd where
 err:Int
 pl:Int
 wk:Int
 st:Int
 root:List UInt8
 bt:List (List UInt8)
 sent:List Msg
 known:List (List UInt8)
abbrev tVd:TypeId:=59
abbrev tCo:TypeId:=56
def vVd (v:Vd):V:= .agg tVd [.int .i64 v.err,.int .i64 v.pl,.agg tCo [.int .i64 v.wk,.int .i64 v.st,Ar v.root,.lst 55 .sh (v.bt.map Ar)],.lst 108 .sh (v.sent.map Ah),sS v.known]
theorem AG9 {x:V} {l:List V} (h:x.pl=true) (k:G5 l=true):G5 (x::l)=true:=by simp only[G5,h,k,Bool.and_self]
@[go_sem] theorem WA (v:Vd):(vVd v).pl=true:=by
  have e:(sS v.known).pl=true:=by simp only[sS,V.pl,IX]
  simp only[vVd,V.pl,G5,Ec,Gt,e,ML,Bool.and_self,Bool.true_and,Bool.and_true]
@[go_sem] theorem ASM (l:List Vd):G5 (l.map vVd)=true:=Dc WA l
@[go_sem] theorem ASN (v:Vd):BI tVd (vVd v)=true:=Ji ..
@[go_sem] theorem ARK (v:Vd):(vVd v).weak=vVd v:=(V.PF _ (WA v)).weak
@[go_sem] theorem ARL (v:Vd):(vVd v).norm=vVd v:=(V.PF _ (WA v)).norm
@[go_sem] theorem APe (h:List V) (v:Vd):(vVd v).reify h=vVd v:=(V.PF _ (WA v)).reify h
theorem AK3 (a b:Nat):decide ((a:Int)≤(b:Int))=decide (a≤b):=by rw[Bool.eq_iff_iff,decide_eq_true_eq,decide_eq_true_eq];omega
theorem Ye {e:TypeId} {f:Fl} {xs:List V} {i:Nat} {x:V} (h:xs[i]?=some x):ET e (.lst e f xs) (.int .i64 (i:Int))=some (.rop e x):=by
 have:=Qh e f xs .i64 i
 rw[h]at this
 exact this
theorem RD (l:List (List UInt8)):EU (sS l)=some (.int .i64 (l.length:Int)):=by
 have:(l.map V.str).length=l.length:=by simp
 rw[←this];rfl
def AC7 (l:List (List UInt8)):Bool:=l.all (fun s=>decide (s.length≤300))&&decide (l.length≤12)
theorem AHv {l:List (List UInt8)} (hl:l.length<9223372036854775808):∀(n i:Nat),i+n=l.length→
 U8 (sS l) (.int .i64 (i:Int))=some (.bool ((l.drop i).all (fun s=>decide (s.length≤300))&&decide (l.length≤12)),[]):=by
 intro n
 have hL:=RD l
 induction n with
 |zero=>
  intro i hi
  have ls:AO .lss (.int .i64 (i:Int)) (.int .i64 (l.length:Int))=some (.bool false):=by rw[b_lss,decide_eq_false (by omega)]
  have le:AO .leq (.int .i64 (l.length:Int)) (.int .i64 12)=some (.bool (decide (l.length≤12))):=by rw[b_leq];exact congrArg (fun b=>some (V.bool b)) (AK3 _ 12)
  rw[List.drop_eq_nil_of_le (by omega),List.all_nil,Bool.true_and,L8]
  generalize decide (l.length≤12)=b at*
  generalize (l.length:Int)=z at*
  generalize hs:sS l=L at*
  have w:L.weak=L:=by rw[←hs];rfl
  (repeat' with_reducible first|refine(CW _ _).trans ?_|refine(CY _ _).trans ?_|refine(AL _ _).trans ?_|((first|(refine' (AB ?_ _).trans ?_;rotate_left)|refine(if_pos ?_).trans ?_|refine(BH ?_ _ _).trans ?_);focus (first|rfl|(simp(disch:=first|assumption|omega|with_reducible rfl|(simp only[go_sem]<;>omega)|fail) only[↓reduceIte,↓AL,Nat.reduceAdd,go_sem,Bool.not_true,Bool.not_false,hL,ls,le,w]<;>first|rfl|omega)|assumption|omega))|(refine(Az ?_ _ _).trans ?_;focus (first|(simp(disch:=first|assumption|omega|with_reducible rfl|(simp only[go_sem]<;>omega)|fail) only[↓reduceIte,↓AL,Nat.reduceAdd,go_sem,Bool.not_true,Bool.not_false,hL,ls,le,w]<;>omega)|assumption|omega))|fail)
  rfl
 |succ n ih=>
  intro i hi
  have h:i<l.length:=by omega
  have ls:AO .lss (.int .i64 (i:Int)) (.int .i64 (l.length:Int))=some (.bool true):=by rw[b_lss,decide_eq_true (by omega)]
  have ix:ET 9 (sS l) (.int .i64 (i:Int))=some (.rop 9 (.str l[i])):=Ye (f:= .sh) (Oi h)
  have ad:AO .add (.int .i64 (i:Int)) (.int .i64 1)=some (.int .i64 ((i+1:Nat):Int)):=by rw[Dt,wrap_i64 (by omega) (by omega)];rfl
  have ih':=ih (i+1) (by omega)
  rw[List.drop_eq_getElem_cons h,List.all_cons]
  by_cases hx:l[i].length≤300
  ·have gt:AO .gtr (.int .i64 (l[i].length:Int)) (.int .i64 300)=some (.bool false):=by rw[b_gtr,decide_eq_false (by omega)]
   rw[decide_eq_true hx,Bool.true_and,←ih',L8]
   clear ih ih'
   generalize l[i]=x at*
   generalize (l.length:Int)=z at*
   generalize (i+1:Nat)=j at*
   generalize hs:sS l=L at*
   have w:L.weak=L:=by rw[←hs];rfl
   (repeat' with_reducible first|refine(CW _ _).trans ?_|refine(CY _ _).trans ?_|refine(AL _ _).trans ?_|((first|(refine' (AB ?_ _).trans ?_;rotate_left)|refine(if_pos ?_).trans ?_|refine(BH ?_ _ _).trans ?_);focus (first|rfl|(simp(disch:=first|assumption|omega|with_reducible rfl|(simp only[go_sem]<;>omega)|fail) only[↓reduceIte,↓AL,Nat.reduceAdd,go_sem,Bool.not_true,Bool.not_false,hL,ls,ix,ad,w,gt]<;>first|rfl|omega)|assumption|omega))|(refine(Az ?_ _ _).trans ?_;focus (first|(simp(disch:=first|assumption|omega|with_reducible rfl|(simp only[go_sem]<;>omega)|fail) only[↓reduceIte,↓AL,Nat.reduceAdd,go_sem,Bool.not_true,Bool.not_false,hL,ls,ix,ad,w,gt]<;>omega)|assumption|omega))|fail)
   rfl
  ·have gt:AO .gtr (.int .i64 (l[i].length:Int)) (.int .i64 300)=some (.bool true):=by rw[b_gtr,decide_eq_true (by omega)]
   rw[decide_eq_false hx,Bool.false_and,Bool.false_and,L8]
   clear ih ih'
   generalize l[i]=x at*
   generalize (l.length:Int)=z at*
   generalize hs:sS l=L at*
   have w:L.weak=L:=by rw[←hs];rfl
   (repeat' with_reducible first|refine(CW _ _).trans ?_|refine(CY _ _).trans ?_|refine(AL _ _).trans ?_|((first|(refine' (AB ?_ _).trans ?_;rotate_left)|refine(if_pos ?_).trans ?_|refine(BH ?_ _ _).trans ?_);focus (first|rfl|(simp(disch:=first|assumption|omega|with_reducible rfl|(simp only[go_sem]<;>omega)|fail) only[↓reduceIte,↓AL,Nat.reduceAdd,go_sem,Bool.not_true,Bool.not_false,hL,ls,ix,w,gt]<;>first|rfl|omega)|assumption|omega))|(refine(Az ?_ _ _).trans ?_;focus (first|(simp(disch:=first|assumption|omega|with_reducible rfl|(simp only[go_sem]<;>omega)|fail) only[↓reduceIte,↓AL,Nat.reduceAdd,go_sem,Bool.not_true,Bool.not_false,hL,ls,ix,w,gt]<;>omega)|assumption|omega))|fail)
   rfl
theorem AHw {l:List (List UInt8)} (hl:l.length<9223372036854775808):Cl 27 [sS l] []=some (.bool (AC7 l),[]):=by
 have h:=AHv hl l.length 0 (by omega)
 rw[List.drop_zero]at h
 rw[AC7,←h,AMd]
 rfl
end
section
open Go AM
def nxF (f:Fl) (n:Nat):Fl:=if f= .nil∧n=0 then .nil else .own
theorem ARN {f g:Fl} (hf:f= .own∨f= .nil) {h:List V} {ys:List V} {ty:V→Bool} {xs:List V} (hc:AV ys=true) (ht:ys.all ty=true) (hl:xs.length+ys.length≤2147483648) (e e':TypeId):
 Gi e ty false h (.lst e f xs) (.lst e' g ys)=some (.lst e (nxF f ys.length) (xs++ys)):=by
 have nl:∀l,nlB false l=l:=fun l=>AQf l
 rcases hf with rfl|rfl
 ·rw[EO hc ht hl,nl];rfl
 ·cases ys with
  |nil=>
   have hy:Ad h (.lst e' g [])=some []:=rfl
   have hl':xs.length≤2147483648:=by simpa using hl
   simp[Gi,hy,AV,Dh,hl',nl,nxF]
  |cons y ys=>rw[YK hc ht hl,nl];rfl
end
section
open Go AM
def textsIn:Nat→List (List UInt8)→List UInt8→Nat→List (List UInt8)×List UInt8×Nat
 |0,acc,s,e=>(acc,s,e)
 |n+1,acc,s,e=>if e=0 then textsIn n (acc++[(textIn 40 s e).1]) (textIn 40 s e).2.1 (textIn 40 s e).2.2 else(acc,s,e)
theorem Ua (m:Nat) (s:List UInt8) (e:Nat):(textIn m s e).2.1.length≤s.length:=by
 by_cases h:e=0
 ·subst h;exact Q9 m s
 ·simp[textIn,h]
theorem KD:∀(n:Nat) (acc:List (List UInt8)) (s:List UInt8) (e:Nat),(textsIn n acc s e).2.1.length≤s.length∧(textsIn n acc s e).1.length≤acc.length+n
 |0,_,_,_=>⟨Nat.le_refl _,Nat.le_refl _⟩
 |n+1,acc,s,e=>by
  rw[textsIn]
  split
  ·have:=KD n (acc++[(textIn 40 s e).1]) (textIn 40 s e).2.1 (textIn 40 s e).2.2
   have:=Ua 40 s e
   simp only[List.length_append,List.length_cons,List.length_nil]at*
   omega
  ·exact⟨Nat.le_refl _,by show acc.length≤_;omega⟩
abbrev hA (a0 a1 a2 a3 a4 x a6 a7 a8 a10 o:V):List V:=[a0,a1,a2,a3,a4,x,a6,a7,a8,CP 5,a10,o]
section
variable {a0 a1 a2 a3 a4 a6 a7 a8 a10 o:V}
theorem AD9 {n0:Nat} (h64:n0≤64):∀(m k:Nat) (acc:List (List UInt8)) (s:List UInt8) (e:Nat),k+m=n0→acc.length=k→s.length<4611686018427387904→
 VN (.ref 9 [] 101) (.int .u64 (n0:Int)) (.lst 9 .own (acc.map V.str)) (.int .u64 (k:Int)) 12 (hA a0 a1 a2 a3 a4 (BA s e) a6 a7 a8 a10 o)=
  some (.lst 9 .non ((textsIn m acc s e).1.map V.str),hA a0 a1 a2 a3 a4 (BA (textsIn m acc s e).2.1 (textsIn m acc s e).2.2) a6 a7 a8 a10 o):=by
 intro m
 have gt:AO .gtr (.int .u64 (n0:Int)) (.int .u64 64)=some (.bool false):=by rw[b_gtr,decide_eq_false (by omega)]
 induction m with
 |zero=>
  intro k acc s e hk ha hs
  have ls:AO .lss (.int .u64 (k:Int)) (.int .u64 (n0:Int))=some (.bool false):=by rw[b_lss,decide_eq_false (by omega)]
  rw[textsIn,I8]
  clear ha hk h64
  generalize acc.map V.str=A at*
  generalize BA s e=x at*
  (repeat' with_reducible first|refine(CW _ _).trans ?_|refine(CY _ _).trans ?_|refine(AL _ _).trans ?_|((first|(refine' (AB ?_ _).trans ?_;rotate_left)|refine(if_pos ?_).trans ?_|refine(BH ?_ _ _).trans ?_);focus (first|rfl|(simp(disch:=first|assumption|omega|with_reducible rfl|(simp only[go_sem]<;>omega)|fail) only[↓reduceIte,↓AL,Nat.reduceAdd,go_sem,Bool.not_true,Bool.not_false,ls,gt]<;>first|rfl|omega)|assumption|omega))|(refine(Az ?_ _ _).trans ?_;focus (first|(simp(disch:=first|assumption|omega|with_reducible rfl|(simp only[go_sem]<;>omega)|fail) only[↓reduceIte,↓AL,Nat.reduceAdd,go_sem,Bool.not_true,Bool.not_false,ls,gt]<;>omega)|assumption|omega))|fail)
  rfl
 |succ m ih=>
  intro k acc s e hk ha hs
  have ls:AO .lss (.int .u64 (k:Int)) (.int .u64 (n0:Int))=some (.bool true):=by rw[b_lss,decide_eq_true (by omega)]
  have le:AO .leq (.int .u64 (n0:Int)) (.int .u64 64)=some (.bool true):=by rw[b_leq,decide_eq_true (by omega)]
  have er:Cl 82 [CP 5] (hA a0 a1 a2 a3 a4 (BA s e) a6 a7 a8 a10 o)=_:=QT (id:=5) rfl
  have l9:∀x,AY (hA a0 a1 a2 a3 a4 x a6 a7 a8 a10 o) 101 (.ref 9 [] 101)=some (CP 5):=fun x=>BG (CS rfl)
  have n5:AU [CP 5]=[CP 5]:=rfl
  have n6:AU [CP 5,V.int .i64 40]=[CP 5,V.int .i64 40]:=rfl
  by_cases he:e=0
  ·subst he
   have eq:AO .eql (.int .i64 ((0:Nat):Int)) (.int .i64 0)=some (.bool true):=rfl
   have tx:Cl 83 [CP 5,.int .i64 40] (hA a0 a1 a2 a3 a4 (BA s 0) a6 a7 a8 a10 o)=_:=Vr 40 (by omega) (id:=5) rfl hs
   have tx':Cl 83 [CP 5,.int .i64 40] (hA a0 a1 a2 a3 a4 (BA s 0) a6 a7 a8 a10 o)=some (.str (textIn 40 s 0).1,hA a0 a1 a2 a3 a4 (BA (textIn 40 s 0).2.1 (textIn 40 s 0).2.2) a6 a7 a8 a10 o):=tx
   have ad:AO .add (.int .u64 (k:Int)) (.int .u64 1)=some (.int .u64 ((k+1:Nat):Int)):=by rw[Dt,wrap_u64 (by omega) (by omega)];rfl
   have ap:∀h:List V,Gi 9 AM.tyS false h (.lst 9 .own (acc.map V.str)) (.lst 9 .own [.str (textIn 40 s 0).1])=some (.lst 9 .own ((acc++[(textIn 40 s 0).1]).map V.str)):=fun h=>by
    rw[List.map_append]
    exact EO (g:= .own) (ys:=[V.str (textIn 40 s 0).1]) (xs:=acc.map V.str) rfl rfl (by simp;omega) _ _ false
   have ih':=ih (k+1) (acc++[(textIn 40 s 0).1]) (textIn 40 s 0).2.1 (textIn 40 s 0).2.2 (by omega) (by simp;omega) (by have:=Ua 40 s 0;omega)
   rw[textsIn,if_pos rfl,←ih',I8]
   clear ha hk h64 ih ih' tx
   generalize (acc++[(textIn 40 s 0).1]).map V.str=A2 at*
   generalize acc.map V.str=A at*
   generalize BA (textIn 40 s 0).2.1 (textIn 40 s 0).2.2=x2 at*
   generalize (textIn 40 s 0).1=t at*
   generalize BA s 0=x at*
   simp only[hA]at*
   generalize CP 5=r at*
   (repeat' with_reducible first|refine(CW _ _).trans ?_|refine(CY _ _).trans ?_|refine(AL _ _).trans ?_|((first|(refine' (AB ?_ _).trans ?_;rotate_left)|refine(if_pos ?_).trans ?_|refine(BH ?_ _ _).trans ?_);focus (first|rfl|(simp(disch:=first|assumption|omega|with_reducible rfl|(simp only[go_sem]<;>omega)|fail) only[↓reduceIte,↓AL,Nat.reduceAdd,go_sem,Bool.not_true,Bool.not_false,ls,le,er,l9,n5,n6,eq,tx',ad,ap,gt]<;>first|rfl|omega)|assumption|omega))|(refine(Az ?_ _ _).trans ?_;focus (first|(simp(disch:=first|assumption|omega|with_reducible rfl|(simp only[go_sem]<;>omega)|fail) only[↓reduceIte,↓AL,Nat.reduceAdd,go_sem,Bool.not_true,Bool.not_false,ls,le,er,l9,n5,n6,eq,tx',ad,ap,gt]<;>omega)|assumption|omega))|fail)
   rfl
  ·have eq:AO .eql (.int .i64 (e:Int)) (.int .i64 0)=some (.bool false):=by rw[b_eql,decide_eq_false (by omega)]
   rw[textsIn,if_neg he,I8]
   clear ha hk h64 ih he
   generalize acc.map V.str=A at*
   generalize BA s e=x at*
   simp only[hA]at*
   generalize CP 5=r at*
   (repeat' with_reducible first|refine(CW _ _).trans ?_|refine(CY _ _).trans ?_|refine(AL _ _).trans ?_|((first|(refine' (AB ?_ _).trans ?_;rotate_left)|refine(if_pos ?_).trans ?_|refine(BH ?_ _ _).trans ?_);focus (first|rfl|(simp(disch:=first|assumption|omega|with_reducible rfl|(simp only[go_sem]<;>omega)|fail) only[↓reduceIte,↓AL,Nat.reduceAdd,go_sem,Bool.not_true,Bool.not_false,ls,le,er,l9,n5,n6,eq,gt]<;>first|rfl|omega)|assumption|omega))|(refine(Az ?_ _ _).trans ?_;focus (first|(simp(disch:=first|assumption|omega|with_reducible rfl|(simp only[go_sem]<;>omega)|fail) only[↓reduceIte,↓AL,Nat.reduceAdd,go_sem,Bool.not_true,Bool.not_false,ls,le,er,l9,n5,n6,eq,gt]<;>omega)|assumption|omega))|fail)
   rfl
def BB (s:List UInt8) (e:Nat):Option (List (List UInt8))×List UInt8×Nat:=
 if 64<(AP s e).1 then(none,(AP s e).2)else
  let t:=textsIn (AP s e).1 [] (AP s e).2.1 (AP s e).2.2
  (some t.1,t.2)
def vLv:Option (List (List UInt8))→V
 |none=> .lst 9 .nil []
 |some l=> .lst 9 .non (l.map V.str)
theorem AEA {s:List UInt8} {e:Nat} (hs:s.length<4611686018427387904):Cl 81 [.ref 9 [] 101] (hA a0 a1 a2 a3 a4 (BA s e) a6 a7 a8 a10 o)=
 some (vLv (BB s e).1,hA a0 a1 a2 a3 a4 (BA (BB s e).2.1 (BB s e).2.2) a6 a7 a8 a10 o):=by
 have l9:∀x,AY (hA a0 a1 a2 a3 a4 x a6 a7 a8 a10 o) 101 (.ref 9 [] 101)=some (CP 5):=fun x=>BG (CS rfl)
 have n5:AU [CP 5]=[CP 5]:=rfl
 have nm:Cl 55 [CP 5] (hA a0 a1 a2 a3 a4 (BA s e) a6 a7 a8 a10 o)=some (.int .u64 ((AP s e).1:Int),hA a0 a1 a2 a3 a4 (BA (AP s e).2.1 (AP s e).2.2) a6 a7 a8 a10 o):=G8 (id:=5) rfl hs
 have nl:=Ea s e
 by_cases h:64<(AP s e).1
 ·have gt:AO .gtr (.int .u64 ((AP s e).1:Int)) (.int .u64 64)=some (.bool true):=by rw[b_gtr,decide_eq_true (by omega)]
  have ls:AO .lss (.int .u64 0) (.int .u64 ((AP s e).1:Int))=some (.bool true):=by rw[b_lss,decide_eq_true (by omega)]
  have le:AO .leq (.int .u64 ((AP s e).1:Int)) (.int .u64 64)=some (.bool false):=by rw[b_leq,decide_eq_false (by omega)]
  rw[BB,if_pos h,AGA]
  clear h nl
  generalize (AP s e).1=n at*
  show _=some (V.lst 9 .nil [],hA a0 a1 a2 a3 a4 (BA (AP s e).2.1 (AP s e).2.2) a6 a7 a8 a10 o)
  generalize BA (AP s e).2.1 (AP s e).2.2=x2 at*
  generalize BA s e=x at*
  simp only[hA]at*
  generalize CP 5=r at*
  (repeat' with_reducible first|refine(CW _ _).trans ?_|refine(CY _ _).trans ?_|refine(AL _ _).trans ?_|((first|(refine' (AB ?_ _).trans ?_;rotate_left)|refine(if_pos ?_).trans ?_|refine(BH ?_ _ _).trans ?_);focus (first|rfl|(simp(disch:=first|assumption|omega|with_reducible rfl|(simp only[go_sem]<;>omega)|fail) only[↓reduceIte,↓AL,Nat.reduceAdd,go_sem,Bool.not_true,Bool.not_false,l9,n5,nm]<;>first|rfl|omega)|assumption|omega))|(refine(Az ?_ _ _).trans ?_;focus (first|(simp(disch:=first|assumption|omega|with_reducible rfl|(simp only[go_sem]<;>omega)|fail) only[↓reduceIte,↓AL,Nat.reduceAdd,go_sem,Bool.not_true,Bool.not_false,l9,n5,nm]<;>omega)|assumption|omega))|fail)
  rw[I8]
  (repeat' with_reducible first|refine(CW _ _).trans ?_|refine(CY _ _).trans ?_|refine(AL _ _).trans ?_|((first|(refine' (AB ?_ _).trans ?_;rotate_left)|refine(if_pos ?_).trans ?_|refine(BH ?_ _ _).trans ?_);focus (first|rfl|(simp(disch:=first|assumption|omega|with_reducible rfl|(simp only[go_sem]<;>omega)|fail) only[↓reduceIte,↓AL,Nat.reduceAdd,go_sem,Bool.not_true,Bool.not_false,ls,le,gt]<;>first|rfl|omega)|assumption|omega))|(refine(Az ?_ _ _).trans ?_;focus (first|(simp(disch:=first|assumption|omega|with_reducible rfl|(simp only[go_sem]<;>omega)|fail) only[↓reduceIte,↓AL,Nat.reduceAdd,go_sem,Bool.not_true,Bool.not_false,ls,le,gt]<;>omega)|assumption|omega))|fail)
  rfl
 ·have lp:=AD9 (a0:=a0) (a1:=a1) (a2:=a2) (a3:=a3) (a4:=a4) (a6:=a6) (a7:=a7) (a8:=a8) (a10:=a10) (o:=o) (n0:=(AP s e).1) (by omega) (AP s e).1 0 [] (AP s e).2.1 (AP s e).2.2 (by omega) rfl (by omega)
  rw[BB,if_neg h]
  simp only[vLv]
  rw[←lp,AGA]
  clear h nl lp
  generalize (AP s e).1=n at*
  generalize BA (AP s e).2.1 (AP s e).2.2=x2 at*
  generalize BA s e=x at*
  simp only[hA]at*
  generalize CP 5=r at*
  (repeat' with_reducible first|refine(CW _ _).trans ?_|refine(CY _ _).trans ?_|refine(AL _ _).trans ?_|((first|(refine' (AB ?_ _).trans ?_;rotate_left)|refine(if_pos ?_).trans ?_|refine(BH ?_ _ _).trans ?_);focus (first|rfl|(simp(disch:=first|assumption|omega|with_reducible rfl|(simp only[go_sem]<;>omega)|fail) only[↓reduceIte,↓AL,Nat.reduceAdd,go_sem,Bool.not_true,Bool.not_false,l9,n5,nm]<;>first|rfl|omega)|assumption|omega))|(refine(Az ?_ _ _).trans ?_;focus (first|(simp(disch:=first|assumption|omega|with_reducible rfl|(simp only[go_sem]<;>omega)|fail) only[↓reduceIte,↓AL,Nat.reduceAdd,go_sem,Bool.not_true,Bool.not_false,l9,n5,nm]<;>omega)|assumption|omega))|fail)
  rfl
end
end
section
open Go AM
theorem AC8 {f:FuncId} {id:Nat} {p:List Nat} {t:TypeId} {cs vs h h':List V} {v r:V} (he:DZ.ext f=false) (hp:DZ.pure f=false) (hh:h[id]?=some v) (haw:BP id (h.set id void)=true)
 (hx:V.away id (.clo f cs)=true) (hv:BP id vs=true) (hr:r.away id=true) (ha2:BP id h'=true) (hlt:id<h'.length) (e:Cl f (AU (vs++cs)) (h.set id void)=some (r,h')) (k:V→List V→Rv) (hs:(DZ.seq f).1=0:=by kernel_rfl):
 Bl P DZ W (some (.ref id p t)) (.clo f cs) vs h k=k r (h'.set id v):=by
 simp only[Bl,hh,haw,hv,hx]
 rw[if_pos (show(true&&true&&true)=true from rfl),Gj _ he hp hs]
 refine(AB e _).trans ?_
 rw[if_pos (by rw[hr,ha2];simp only[Bool.true_and];exact Nat.ble_eq_true_of_le hlt)]
theorem Yf (s:List UInt8) (e:Nat):(BB s e).2.1.length≤s.length:=by
 have:=Ea s e
 rw[BB]
 split
 ·exact this
 ·have:=(KD (AP s e).1 [] (AP s e).2.1 (AP s e).2.2).1
  show(textsIn (AP s e).1 [] (AP s e).2.1 (AP s e).2.2).2.1.length≤_
  omega
def Gf:Nat→Int→List Bool→List (List UInt8)→List (List (List UInt8))→List UInt8→Nat→Bk×Bool×List UInt8×Nat
 |0,st,gone,rs,ks,s,e=>(⟨st,gone,rs,ks,(Q8 (textIn 65536 s e).1).1⟩,decide ((Q8 (textIn 65536 s e).1).2=0)&&decide (FB (textIn 65536 s e).2.1 (textIn 65536 s e).2.2=0),(textIn 65536 s e).2)
 |n+1,st,gone,rs,ks,s,e=>match(BB (Aa s e).2.1 (Aa s e).2.2).1 with
  |none=>(zB,false,(BB (Aa s e).2.1 (Aa s e).2.2).2)
  |some l=>Gf n st gone (rs++[(Aa s e).1]) (ks++[l]) (BB (Aa s e).2.1 (Aa s e).2.2).2.1 (BB (Aa s e).2.1 (Aa s e).2.2).2.2
theorem AHx {m:Nat} {st:Int} {gone:List Bool} {rs:List (List UInt8)} {ks:List (List (List UInt8))} {s:List UInt8} {e:Nat} (h:(BB (Aa s e).2.1 (Aa s e).2.2).1=none):Gf (m+1) st gone rs ks s e=(zB,false,(BB (Aa s e).2.1 (Aa s e).2.2).2):=by simp only[Gf,h]
theorem AHy {m:Nat} {st:Int} {gone:List Bool} {rs:List (List UInt8)} {ks:List (List (List UInt8))} {s:List UInt8} {e:Nat} {l:List (List UInt8)} (h:(BB (Aa s e).2.1 (Aa s e).2.2).1=some l):Gf (m+1) st gone rs ks s e=Gf m st gone (rs++[(Aa s e).1]) (ks++[l]) (BB (Aa s e).2.1 (Aa s e).2.2).2.1 (BB (Aa s e).2.1 (Aa s e).2.2).2.2:=by simp only[Gf,h]
section
variable {a0 a1 a2 a3 a4 a6 a7 a8 a10:V}
theorem ATg (hw:BP 11 [a0,a1,a2,a3,a4,a6,a7,a8,a10]=true) {o:V} {s:List UInt8} {e:Nat} (k:V→List V→Rv):
 Bl P DZ W (some (.ref 11 [] 33)) (.clo 84 []) [CP 5] (hA a0 a1 a2 a3 a4 (BA s e) a6 a7 a8 a10 o) k=k (Ar (Aa s e).1) (hA a0 a1 a2 a3 a4 (BA (Aa s e).2.1 (Aa s e).2.2) a6 a7 a8 a10 o):=by
 simp only[BP,Bool.and_eq_true]at hw
 obtain⟨h0,h1,h2,h3,h4,h6,h7,h8,h10,_⟩:=hw
 have w:∀s e,BP 11 (hA a0 a1 a2 a3 a4 (BA s e) a6 a7 a8 a10 void)=true:=fun s e=>by
  simp only[hA,BP,h0,h1,h2,h3,h4,h6,h7,h8,h10,(V.PF _ (AHO s e)).away,Bool.true_and];rfl
 exact(AC8 (h:=hA a0 a1 a2 a3 a4 (BA s e) a6 a7 a8 a10 o) (v:=o) (cs:=[]) (vs:=[CP 5]) (h':=hA a0 a1 a2 a3 a4 (BA (Aa s e).2.1 (Aa s e).2.2) a6 a7 a8 a10 void) (by kernel_rfl) (by kernel_rfl) (id:=11) rfl (w s e) rfl rfl ((V.PF _ (ML _)).away 11) (w _ _) (by simp) (AKg (id:=5) rfl) k).trans rfl
theorem ARP (hw:BP 11 [a0,a1,a2,a3,a4,a6,a7,a8,a10]=true) {o:V} {s:List UInt8} {e:Nat} (k:V→List V→Rv):
 Bl P DZ W (some (.ref 11 [] 33)) (.clo 86 []) [CP 5] (hA a0 a1 a2 a3 a4 (BA s e) a6 a7 a8 a10 o) k=k (.int .i64 (FB s e:Int)) (hA a0 a1 a2 a3 a4 (BA s e) a6 a7 a8 a10 o):=by
 simp only[BP,Bool.and_eq_true]at hw
 obtain⟨h0,h1,h2,h3,h4,h6,h7,h8,h10,_⟩:=hw
 have w:∀s e,BP 11 (hA a0 a1 a2 a3 a4 (BA s e) a6 a7 a8 a10 void)=true:=fun s e=>by
  simp only[hA,BP,h0,h1,h2,h3,h4,h6,h7,h8,h10,(V.PF _ (AHO s e)).away,Bool.true_and];rfl
 exact(AC8 (h:=hA a0 a1 a2 a3 a4 (BA s e) a6 a7 a8 a10 o) (v:=o) (cs:=[]) (vs:=[CP 5]) (h':=hA a0 a1 a2 a3 a4 (BA s e) a6 a7 a8 a10 void) (by kernel_rfl) (by kernel_rfl) (id:=11) rfl (w s e) rfl rfl rfl (w _ _) (by simp) (Vm (id:=5) rfl) k).trans rfl
abbrev cLv:V:= .clo 81 [.ref 9 [] 101]
theorem ATh {o:V} {s:List UInt8} {e:Nat} (hs:s.length<4611686018427387904) (k:V→List V→Rv):
 CG P DZ W cLv [] (hA a0 a1 a2 a3 a4 (BA s e) a6 a7 a8 a10 o) k=k (vLv (BB s e).1) (hA a0 a1 a2 a3 a4 (BA (BB s e).2.1 (BB s e).2.2) a6 a7 a8 a10 o):=
 MJ k (by kernel_rfl) (by kernel_rfl) (AEA hs)
theorem AHz (hw:BP 11 [a0,a1,a2,a3,a4,a6,a7,a8,Ht]=true) {N:Nat} (hN:N≤1000) {st:Int} {gone:List Bool}:∀(m i:Nat) (f:Fl) (rs:List (List UInt8)) (ks:List (List (List UInt8))) (s:List UInt8) (e:Nat),i+m=N→rs.length=i→ks.length=i→(f= .own∨f= .nil)→s.length<1000000000→
 VG (.ref 9 [] 101) (.ref 10 [] 33) (.ref 11 [] 33) cLv (.int .i64 (N:Int)) (.int .i64 (i:Int)) 7 (hA a0 a1 a2 a3 a4 (BA s e) a6 a7 a8 Ht (H6 .sh f f .nil ⟨st,gone,rs,ks,[]⟩))=
  some (.tup [vB (Gf m st gone rs ks s e).1,.bool (Gf m st gone rs ks s e).2.1],[a0,a1,a2,a3,a4,BA (Gf m st gone rs ks s e).2.2.1 (Gf m st gone rs ks s e).2.2.2,a6]):=by
 have l9:∀x o,AY (hA a0 a1 a2 a3 a4 x a6 a7 a8 Ht o) 101 (.ref 9 [] 101)=some (CP 5):=fun x o=>BG (CS rfl)
 have sb11:∀p t,Dx (.ref 11 [] 33) (.ref 11 p t)=true:=fun _ _=>rfl
 have df11:ND (.ref 11 [] 33) (.ref 9 [] 101)=true:=rfl
 have sb9:Dx (.ref 9 [] 101) (.ref 9 [] 101)=true:=rfl
 have n6:AU [CP 5,V.int .i64 65536]=[CP 5,V.int .i64 65536]:=rfl
 intro m
 induction m with
 |zero=>
  intro i f rs ks s e hi h1 h2 hf hs
  have ls:AO .lss (.int .i64 (i:Int)) (.int .i64 (N:Int))=some (.bool false):=by rw[b_lss,decide_eq_false (by omega)]
  have tx:Cl 83 [CP 5,.int .i64 65536] (hA a0 a1 a2 a3 a4 (BA s e) a6 a7 a8 Ht (H6 .sh f f .nil ⟨st,gone,rs,ks,[]⟩))=some (.str (textIn 65536 s e).1,hA a0 a1 a2 a3 a4 (BA (textIn 65536 s e).2.1 (textIn 65536 s e).2.2) a6 a7 a8 Ht (H6 .sh f f .nil ⟨st,gone,rs,ks,[]⟩)):=Vr 65536 (by omega) (id:=5) rfl (by omega)
  have tl:(textIn 65536 s e).1.length≤65536:=by
   by_cases he:e=0
   ·subst he;exact NW _ _
   ·simp[textIn,he]
  have gt:Cl 85 [.str (textIn 65536 s e).1] []=some (.tup [.lst 108 .sh ((Q8 (textIn 65536 s e).1).1.map Ah),.int .i64 ((Q8 (textIn 65536 s e).1).2:Int)],[]):=AOq (by omega)
  have en:=fun o=>ARP hw (o:=o) (s:=(textIn 65536 s e).2.1) (e:=(textIn 65536 s e).2.2)
  rw[Gf,TU]
  clear tl
  generalize (Q8 (textIn 65536 s e).1).2=g2 at*
  generalize (Q8 (textIn 65536 s e).1).1=g1 at*
  generalize FB (textIn 65536 s e).2.1 (textIn 65536 s e).2.2=e2 at*
  have rf:∀h:List V,AA h [V.str (textIn 65536 s e).1]=[V.str (textIn 65536 s e).1]:=fun h=>rfl
  generalize (textIn 65536 s e).1=t at*
  generalize BA (textIn 65536 s e).2.1 (textIn 65536 s e).2.2=x2 at*
  generalize BA s e=x at*
  simp only[hA]at*
  generalize CP 5=r at*
  generalize cLv=c at*
  by_cases c1:g2=0
  ·subst c1
   have q1:AO .eql (.int .i64 ((0:Nat):Int)) (.int .i64 0)=some (.bool true):=rfl
   by_cases c2:e2=0
   ·subst c2
    rcases hf with rfl|rfl
    all_goals (repeat' with_reducible first|refine(CW _ _).trans ?_|refine(CY _ _).trans ?_|refine(AL _ _).trans ?_|((first|(refine' (AB ?_ _).trans ?_;rotate_left)|refine(if_pos ?_).trans ?_|refine(BH ?_ _ _).trans ?_);focus (first|rfl|(simp(disch:=first|assumption|omega|with_reducible rfl|(simp only[go_sem]<;>omega)|fail) only[↓reduceIte,↓AL,Nat.reduceAdd,go_sem,Bool.not_true,Bool.not_false,ls,l9,n6,tx,gt,rf,q1,EM,EN,sb11]<;>first|rfl|omega)|assumption|omega))|(refine(Az ?_ _ _).trans ?_;focus (first|(simp(disch:=first|assumption|omega|with_reducible rfl|(simp only[go_sem]<;>omega)|fail) only[↓reduceIte,↓AL,Nat.reduceAdd,go_sem,Bool.not_true,Bool.not_false,ls,l9,n6,tx,gt,rf,q1,EM,EN,sb11]<;>omega)|assumption|omega))|fail)
    all_goals refine(en _ _).trans ?_
    all_goals (repeat' with_reducible first|refine(CW _ _).trans ?_|refine(CY _ _).trans ?_|refine(AL _ _).trans ?_|((first|(refine' (AB ?_ _).trans ?_;rotate_left)|refine(if_pos ?_).trans ?_|refine(BH ?_ _ _).trans ?_);focus (first|rfl|(simp(disch:=first|assumption|omega|with_reducible rfl|(simp only[go_sem]<;>omega)|fail) only[↓reduceIte,↓AL,Nat.reduceAdd,go_sem,Bool.not_true,Bool.not_false,q1]<;>first|rfl|omega)|assumption|omega))|(refine(Az ?_ _ _).trans ?_;focus (first|(simp(disch:=first|assumption|omega|with_reducible rfl|(simp only[go_sem]<;>omega)|fail) only[↓reduceIte,↓AL,Nat.reduceAdd,go_sem,Bool.not_true,Bool.not_false,q1]<;>omega)|assumption|omega))|fail)
    all_goals simp(disch:=first|assumption|omega|(with_reducible rfl)|(simp only[go_sem];done)|(simp only[go_sem];omega)|fail) only[↓reduceIte,↓AL,Nat.reduceAdd,go_sem]
    all_goals rfl
   ·have q2:AO .eql (.int .i64 (e2:Int)) (.int .i64 0)=some (.bool false):=by rw[b_eql,decide_eq_false (by omega)]
    have q3:decide (e2=0)=false:=decide_eq_false c2
    rw[q3]
    clear c2 q3
    rcases hf with rfl|rfl
    all_goals (repeat' with_reducible first|refine(CW _ _).trans ?_|refine(CY _ _).trans ?_|refine(AL _ _).trans ?_|((first|(refine' (AB ?_ _).trans ?_;rotate_left)|refine(if_pos ?_).trans ?_|refine(BH ?_ _ _).trans ?_);focus (first|rfl|(simp(disch:=first|assumption|omega|with_reducible rfl|(simp only[go_sem]<;>omega)|fail) only[↓reduceIte,↓AL,Nat.reduceAdd,go_sem,Bool.not_true,Bool.not_false,ls,l9,n6,tx,gt,rf,q1,EM,EN,sb11]<;>first|rfl|omega)|assumption|omega))|(refine(Az ?_ _ _).trans ?_;focus (first|(simp(disch:=first|assumption|omega|with_reducible rfl|(simp only[go_sem]<;>omega)|fail) only[↓reduceIte,↓AL,Nat.reduceAdd,go_sem,Bool.not_true,Bool.not_false,ls,l9,n6,tx,gt,rf,q1,EM,EN,sb11]<;>omega)|assumption|omega))|fail)
    all_goals refine(en _ _).trans ?_
    all_goals (repeat' with_reducible first|refine(CW _ _).trans ?_|refine(CY _ _).trans ?_|refine(AL _ _).trans ?_|((first|(refine' (AB ?_ _).trans ?_;rotate_left)|refine(if_pos ?_).trans ?_|refine(BH ?_ _ _).trans ?_);focus (first|rfl|(simp(disch:=first|assumption|omega|with_reducible rfl|(simp only[go_sem]<;>omega)|fail) only[↓reduceIte,↓AL,Nat.reduceAdd,go_sem,Bool.not_true,Bool.not_false,q2]<;>first|rfl|omega)|assumption|omega))|(refine(Az ?_ _ _).trans ?_;focus (first|(simp(disch:=first|assumption|omega|with_reducible rfl|(simp only[go_sem]<;>omega)|fail) only[↓reduceIte,↓AL,Nat.reduceAdd,go_sem,Bool.not_true,Bool.not_false,q2]<;>omega)|assumption|omega))|fail)
    all_goals simp(disch:=first|assumption|omega|(with_reducible rfl)|(simp only[go_sem];done)|(simp only[go_sem];omega)|fail) only[↓reduceIte,↓AL,Nat.reduceAdd,go_sem]
    all_goals rfl
  ·have q1:AO .eql (.int .i64 (g2:Int)) (.int .i64 0)=some (.bool false):=by rw[b_eql,decide_eq_false (by omega)]
   have q3:decide (g2=0)=false:=decide_eq_false c1
   rw[q3]
   clear c1 q3
   rcases hf with rfl|rfl
   all_goals (repeat' with_reducible first|refine(CW _ _).trans ?_|refine(CY _ _).trans ?_|refine(AL _ _).trans ?_|((first|(refine' (AB ?_ _).trans ?_;rotate_left)|refine(if_pos ?_).trans ?_|refine(BH ?_ _ _).trans ?_);focus (first|rfl|(simp(disch:=first|assumption|omega|with_reducible rfl|(simp only[go_sem]<;>omega)|fail) only[↓reduceIte,↓AL,Nat.reduceAdd,go_sem,Bool.not_true,Bool.not_false,ls,l9,n6,tx,gt,rf,q1,EM,EN,sb11]<;>first|rfl|omega)|assumption|omega))|(refine(Az ?_ _ _).trans ?_;focus (first|(simp(disch:=first|assumption|omega|with_reducible rfl|(simp only[go_sem]<;>omega)|fail) only[↓reduceIte,↓AL,Nat.reduceAdd,go_sem,Bool.not_true,Bool.not_false,ls,l9,n6,tx,gt,rf,q1,EM,EN,sb11]<;>omega)|assumption|omega))|fail)
   all_goals simp(disch:=first|assumption|omega|(with_reducible rfl)|(simp only[go_sem];done)|(simp only[go_sem];omega)|fail) only[↓reduceIte,↓AL,Nat.reduceAdd,go_sem]
   all_goals rfl
 |succ m ih=>
  intro i f rs ks s e hi h1 h2 hf hs
  have ls:AO .lss (.int .i64 (i:Int)) (.int .i64 (N:Int))=some (.bool true):=by rw[b_lss,decide_eq_true (by omega)]
  have ad:AO .add (.int .i64 (i:Int)) (.int .i64 1)=some (.int .i64 ((i+1:Nat):Int)):=by rw[Dt,wrap_i64 (by omega) (by omega)];rfl
  have hh:=fun o k=>ATg hw (o:=o) (s:=s) (e:=e) k
  have hl:=Qp s e
  have cc:=fun o k=>ATh (a0:=a0) (a1:=a1) (a2:=a2) (a3:=a3) (a4:=a4) (a6:=a6) (a7:=a7) (a8:=a8) (a10:=Ht) (o:=o) (s:=(Aa s e).2.1) (e:=(Aa s e).2.2) (by omega) k
  have ll:=Yf (Aa s e).2.1 (Aa s e).2.2
  have ap:∀h:List V,Gi 55 (BI 54) false h (.lst 55 f (rs.map Ar)) (.lst 55 .own [Ar (Aa s e).1])=some (.lst 55 .own ((rs++[(Aa s e).1]).map Ar)):=fun h=>by
   have c:AV [Ar (Aa s e).1]=true:=(V.PFL _ (Ec [(Aa s e).1])).clean
   have t:[Ar (Aa s e).1].all (BI 54)=true:=all_map (fun _=>Ji ..) [(Aa s e).1]
   rw[ARN hf c t (by simp;omega),List.map_append]
   rcases hf with rfl|rfl<;>rfl
  have tk2:∀(x o0 o1 o3 o4:V) (g:Fl) (R:List V),BN [a0,a1,a2,a3,a4,x,a6,a7,a8,CP 5,Ht,.agg JW [o0,o1,.lst 55 g R,o3,o4]] 29 (.ref 11 [2] 29)=some (.lst 55 g R,[a0,a1,a2,a3,a4,x,a6,a7,a8,CP 5,Ht,.agg JW [o0,o1,.lst 55 g.wk R,o3,o4]]):=
   fun x o0 o1 o3 o4 g R=>Ey (h:=[a0,a1,a2,a3,a4,x,a6,a7,a8,CP 5,Ht,.agg JW [o0,o1,.lst 55 g R,o3,o4]]) (id:=11) rfl rfl
  have tk3:∀(x o0 o1 o2 o4:V) (g:Fl) (R:List V),BN [a0,a1,a2,a3,a4,x,a6,a7,a8,CP 5,Ht,.agg JW [o0,o1,o2,.lst 58 g R,o4]] 30 (.ref 11 [3] 30)=some (.lst 58 g R,[a0,a1,a2,a3,a4,x,a6,a7,a8,CP 5,Ht,.agg JW [o0,o1,o2,.lst 58 g.wk R,o4]]):=
   fun x o0 o1 o2 o4 g R=>Ey (h:=[a0,a1,a2,a3,a4,x,a6,a7,a8,CP 5,Ht,.agg JW [o0,o1,o2,.lst 58 g R,o4]]) (id:=11) rfl rfl
  have no1:V.noOwn (.lst 9 .nil [])=true:=rfl
  have w1:V.weak (.lst 9 .nil [])= .lst 9 .nil []:=rfl
  have en1:H8 .eql (.lst 9 .nil []) (.lst 9 .nil [])=some (.bool true):=rfl
  have no2:∀X,V.noOwn (.lst 9 .non X)=true:=fun _=>rfl
  have w2:∀X,V.weak (.lst 9 .non X)= .lst 9 .non X:=fun _=>rfl
  have en2:∀X,H8 .eql (.lst 9 .non X) (.lst 9 .nil [])=some (.bool false):=fun X=>by cases X<;>rfl
  have df:(ND (.ref 11 [] 33) (.ref 9 [] 101)&&true)=true:=rfl
  rw[TU]
  cases hlv:(BB (Aa s e).2.1 (Aa s e).2.2).1 with
  |none=>
   rw[hlv]at cc
   have ac:Gf (m+1) st gone rs ks s e=(zB,false,(BB (Aa s e).2.1 (Aa s e).2.2).2):=AHx hlv
   rw[ac]
   clear ac ih hlv ll hl
   generalize (BB (Aa s e).2.1 (Aa s e).2.2).2=lv at*
   generalize BA lv.1 lv.2=x3 at*
   generalize BA (Aa s e).2.1 (Aa s e).2.2=x2 at*
   generalize (Aa s e).1=t at*
   generalize BA s e=x at*
   simp only[hA]at*
   generalize CP 5=r at*
   generalize cLv=c at*
   rcases hf with rfl|rfl
   all_goals (repeat' with_reducible first|refine(CW _ _).trans ?_|refine(CY _ _).trans ?_|refine(AL _ _).trans ?_|((first|(refine' (AB ?_ _).trans ?_;rotate_left)|refine(if_pos ?_).trans ?_|refine(BH ?_ _ _).trans ?_);focus (first|rfl|(simp(disch:=first|assumption|omega|with_reducible rfl|(simp only[go_sem]<;>omega)|fail) only[↓reduceIte,↓AL,Nat.reduceAdd,go_sem,Bool.not_true,Bool.not_false,ls,l9,df,sb11,sb9,tk2,EM,EN]<;>first|rfl|omega)|assumption|omega))|(refine(Az ?_ _ _).trans ?_;focus (first|(simp(disch:=first|assumption|omega|with_reducible rfl|(simp only[go_sem]<;>omega)|fail) only[↓reduceIte,↓AL,Nat.reduceAdd,go_sem,Bool.not_true,Bool.not_false,ls,l9,df,sb11,sb9,tk2,EM,EN]<;>omega)|assumption|omega))|fail)
   all_goals refine(hh _ _).trans ?_
   all_goals (repeat' with_reducible first|refine(CW _ _).trans ?_|refine(CY _ _).trans ?_|refine(AL _ _).trans ?_|((first|(refine' (AB ?_ _).trans ?_;rotate_left)|refine(if_pos ?_).trans ?_|refine(BH ?_ _ _).trans ?_);focus (first|rfl|(simp(disch:=first|assumption|omega|with_reducible rfl|(simp only[go_sem]<;>omega)|fail) only[↓reduceIte,↓AL,Nat.reduceAdd,go_sem,Bool.not_true,Bool.not_false,ap]<;>first|rfl|omega)|assumption|omega))|(refine(Az ?_ _ _).trans ?_;focus (first|(simp(disch:=first|assumption|omega|with_reducible rfl|(simp only[go_sem]<;>omega)|fail) only[↓reduceIte,↓AL,Nat.reduceAdd,go_sem,Bool.not_true,Bool.not_false,ap]<;>omega)|assumption|omega))|fail)
   all_goals refine(cc _ _).trans ?_
   all_goals simp only[vLv]
   all_goals (repeat' with_reducible first|refine(CW _ _).trans ?_|refine(CY _ _).trans ?_|refine(AL _ _).trans ?_|((first|(refine' (AB ?_ _).trans ?_;rotate_left)|refine(if_pos ?_).trans ?_|refine(BH ?_ _ _).trans ?_);focus (first|rfl|(simp(disch:=first|assumption|omega|with_reducible rfl|(simp only[go_sem]<;>omega)|fail) only[↓reduceIte,↓AL,Nat.reduceAdd,go_sem,Bool.not_true,Bool.not_false,no1,w1,en1]<;>first|rfl|omega)|assumption|omega))|(refine(Az ?_ _ _).trans ?_;focus (first|(simp(disch:=first|assumption|omega|with_reducible rfl|(simp only[go_sem]<;>omega)|fail) only[↓reduceIte,↓AL,Nat.reduceAdd,go_sem,Bool.not_true,Bool.not_false,no1,w1,en1]<;>omega)|assumption|omega))|fail)
   all_goals simp(disch:=first|assumption|omega|(with_reducible rfl)|(simp only[go_sem];done)|(simp only[go_sem];omega)|fail) only[↓reduceIte,↓AL,Nat.reduceAdd,go_sem]
   all_goals rfl
  |some l=>
   rw[hlv]at cc
   have ih':=ih (i+1) .own (rs++[(Aa s e).1]) (ks++[l]) (BB (Aa s e).2.1 (Aa s e).2.2).2.1 (BB (Aa s e).2.1 (Aa s e).2.2).2.2 (by omega) (by simp;omega) (by simp;omega) (Or.inl rfl) (by omega)
   have bs:Hy 58 true (ck [IE 9 (V.lst 9 .non (l.map V.str))] [V.lst 9 .non (l.map V.str)])=some (.lst 58 .own [sS l]):=by
    have c:AV [V.lst 9 .non (l.map V.str)]=true:=rfl
    show Hy _ _ (some _)=_
    rw[AQk c];rfl
   have nl:nlB true [sS l]=[sS l]:=rfl
   have ap2:∀h:List V,Gi 58 (IE 9) true h (.lst 58 f (ks.map sS)) (.lst 58 .own [sS l])=some (.lst 58 .own ((ks++[l]).map sS)):=fun h=>by
    have c:AV [sS l]=true:=(V.PFL _ (Qr [l])).clean
    have t:[sS l].all (IE 9)=true:=rfl
    rw[List.map_append]
    rcases hf with rfl|rfl
    ·rw[EO c t (by simp;omega),nl];rfl
    ·rw[YK c t (by simp;omega),nl];rfl
   rw[AHy hlv,←ih']
   clear ih ih' hlv ll hl
   generalize (BB (Aa s e).2.1 (Aa s e).2.2).2=lv at*
   generalize BA lv.1 lv.2=x3 at*
   generalize BA (Aa s e).2.1 (Aa s e).2.2=x2 at*
   generalize (Aa s e).1=t at*
   generalize BA s e=x at*
   simp only[hA]at*
   generalize CP 5=r at*
   generalize cLv=c at*
   rcases hf with rfl|rfl
   all_goals (repeat' with_reducible first|refine(CW _ _).trans ?_|refine(CY _ _).trans ?_|refine(AL _ _).trans ?_|((first|(refine' (AB ?_ _).trans ?_;rotate_left)|refine(if_pos ?_).trans ?_|refine(BH ?_ _ _).trans ?_);focus (first|rfl|(simp(disch:=first|assumption|omega|with_reducible rfl|(simp only[go_sem]<;>omega)|fail) only[↓reduceIte,↓AL,Nat.reduceAdd,go_sem,Bool.not_true,Bool.not_false,ls,l9,df,sb11,sb9,tk2,EM,EN]<;>first|rfl|omega)|assumption|omega))|(refine(Az ?_ _ _).trans ?_;focus (first|(simp(disch:=first|assumption|omega|with_reducible rfl|(simp only[go_sem]<;>omega)|fail) only[↓reduceIte,↓AL,Nat.reduceAdd,go_sem,Bool.not_true,Bool.not_false,ls,l9,df,sb11,sb9,tk2,EM,EN]<;>omega)|assumption|omega))|fail)
   all_goals refine(hh _ _).trans ?_
   all_goals (repeat' with_reducible first|refine(CW _ _).trans ?_|refine(CY _ _).trans ?_|refine(AL _ _).trans ?_|((first|(refine' (AB ?_ _).trans ?_;rotate_left)|refine(if_pos ?_).trans ?_|refine(BH ?_ _ _).trans ?_);focus (first|rfl|(simp(disch:=first|assumption|omega|with_reducible rfl|(simp only[go_sem]<;>omega)|fail) only[↓reduceIte,↓AL,Nat.reduceAdd,go_sem,Bool.not_true,Bool.not_false,ap]<;>first|rfl|omega)|assumption|omega))|(refine(Az ?_ _ _).trans ?_;focus (first|(simp(disch:=first|assumption|omega|with_reducible rfl|(simp only[go_sem]<;>omega)|fail) only[↓reduceIte,↓AL,Nat.reduceAdd,go_sem,Bool.not_true,Bool.not_false,ap]<;>omega)|assumption|omega))|fail)
   all_goals refine(cc _ _).trans ?_
   all_goals simp only[vLv]
   all_goals refine(if_pos (no2 _)).trans ?_
   all_goals rw[w2]
   all_goals refine(AB (en2 _) _).trans ?_
   all_goals (repeat' with_reducible first|refine(CW _ _).trans ?_|refine(CY _ _).trans ?_|refine(AL _ _).trans ?_|((first|(refine' (AB ?_ _).trans ?_;rotate_left)|refine(if_pos ?_).trans ?_|refine(BH ?_ _ _).trans ?_);focus (first|rfl|(simp(disch:=first|assumption|omega|with_reducible rfl|(simp only[go_sem]<;>omega)|fail) only[↓reduceIte,↓AL,Nat.reduceAdd,go_sem,Bool.not_true,Bool.not_false,bs,ap2,ad,tk3,EM,EN]<;>first|rfl|omega)|assumption|omega))|(refine(Az ?_ _ _).trans ?_;focus (first|(simp(disch:=first|assumption|omega|with_reducible rfl|(simp only[go_sem]<;>omega)|fail) only[↓reduceIte,↓AL,Nat.reduceAdd,go_sem,Bool.not_true,Bool.not_false,bs,ap2,ad,tk3,EM,EN]<;>omega)|assumption|omega))|fail)
   all_goals rfl
end
end
section
open Go AM
theorem AH0:∀(cs:List UInt8) (k v:Nat),(EH k v cs).2.2≠0→(EH k v cs).1=0
 |[],k,v,_=>by simp[EH]
 |c::cs,k,v,h=>by
  simp only[EH]at h⊢
  split
  ·rfl
  ·rename_i h1
   rw[if_neg h1]at h
   split
   ·rename_i h2
    rw[if_pos h2]at h
    exact absurd rfl h
   ·rename_i h2
    rw[if_neg h2]at h
    exact AH0 cs _ _ h
theorem AC9 {s:List UInt8} {e:Nat} (h:(AP s e).2.2≠0):(AP s e).1=0:=by
 by_cases he:e=0
 ·subst he
  simp only[AP,ne_eq,not_true_eq_false,if_false]at h⊢
  exact AH0 _ _ _ h
 ·simp[AP,he]
def AH1 (j:Job) (b:Bk) (n:Nat):Bool:=decide (0≤b.step)&&(decide ((n:Int)=b.step)&&decide (b.step<j.steps))
def MP (j:Job) (b:Bk) (s:List UInt8):Bk×Bool×List UInt8×Nat:=
 if AH1 j b (AP s 0).1=true then Gf b.roots.length (b.step+1) b.gone [] [] (AP s 0).2.1 (AP s 0).2.2 else(zB,false,(AP s 0).2)
section
variable {a0 a1 a2 a3 a4 a6:V}
theorem AEB {j:Job} {b:Bk} (hw:BP 11 [a0,a1,a2,a3,a4,a6,vJ j,vB b,Ht]=true) (hr:b.roots.length≤1000) (hg:b.gone.length≤1000000) (hg0:0<b.gone.length) (h64:b.step<9223372036854775807) {s:List UInt8} (hs:s.length<1000000000):
 Cl 56 [vJ j,vB b,CP 5] [a0,a1,a2,a3,a4,BA s 0,a6]=some (.tup [vB (MP j b s).1,.bool (MP j b s).2.1],[a0,a1,a2,a3,a4,BA (MP j b s).2.2.1 (MP j b s).2.2.2,a6]):=by
 have nm:Cl 55 [CP 5] [a0,a1,a2,a3,a4,BA s 0,a6,vJ j,vB b,CP 5,Ht]=some (.int .u64 ((AP s 0).1:Int),[a0,a1,a2,a3,a4,BA (AP s 0).2.1 (AP s 0).2.2,a6,vJ j,vB b,CP 5,Ht]):=G8 (id:=5) rfl (by omega)
 have nl:=Ea s 0
 have lt:=IY s 0
 have cl:=Yb hg hg0
 have w5:∀n:Nat,5<n→(AM.tyP (CP 5)&&V.under n (CP 5))=true:=fun n h=>by rw[ADt h];rfl
 have u1:∀n,V.under n (vJ j)=true:=fun n=>rfl
 have pb:(vB b).pl=true:=by simp only[V.pl,G5,Eb,Ec,Qr,Gt];rfl
 have wb:=(V.PF _ pb).weak
 have ub:=fun n=>(V.PF _ pb).under n
 have lp:=AHz hw hr (st:=b.step+1) (gone:=b.gone) b.roots.length 0 .nil [] [] (AP s 0).2.1 (AP s 0).2.2 (by omega) rfl rfl (Or.inr rfl) (by omega)
 rw[MP]
 by_cases hm:AH1 j b (AP s 0).1=true
 ·have hm':=hm
  simp only[AH1,Bool.and_eq_true,decide_eq_true_eq]at hm'
  obtain⟨m0,m1,m2⟩:=hm'
  have b1:AO .lss (.int .i64 b.step) (.int .i64 0)=some (.bool false):=by rw[b_lss,decide_eq_false (by omega)]
  have b2:Hz .u64 (.int .i64 b.step)=some (.int .u64 ((AP s 0).1:Int)):=by rw[←m1,cvI_u64 (by omega) (by omega)]
  have b3:AO .neq (.int .u64 ((AP s 0).1:Int)) (.int .u64 ((AP s 0).1:Int))=some (.bool false):=by rw[b_neq];simp
  have b4:AO .geq (.int .i64 b.step) (.int .i64 j.steps)=some (.bool false):=by rw[b_geq,decide_eq_false (by omega)]
  have b5:AO .add (.int .i64 b.step) (.int .i64 1)=some (.int .i64 (b.step+1)):=by rw[Dt,wrap_i64 (by omega) (by omega)]
  have cp:List.all [V.ref 9 [] 101] V.capOk=true:=rfl
  rw[if_pos hm,←lp,AFa]
  clear lp hm m0 m1 m2 nl lt hs hr hw
  generalize ((AP s 0).1:Int)=n at*
  generalize BA (AP s 0).2.1 (AP s 0).2.2=x2 at*
  generalize BA s 0=x at*
  simp(disch:=first|assumption|omega|(with_reducible rfl)|(simp only[go_sem];done)|(simp only[go_sem];omega)|fail) only[↓reduceIte,↓AL,Nat.reduceAdd,go_sem,nm,cl,b1,b2,b3,b4,b5,cp,w5,ub]
  rfl
 ·rw[if_neg hm,AFa]
  clear lp hs hr hw cl
  by_cases c1:b.step<0
  ·have b1:AO .lss (.int .i64 b.step) (.int .i64 0)=some (.bool true):=by rw[b_lss,decide_eq_true c1]
   clear c1 hm lt
   generalize ((AP s 0).1:Int)=n at*
   generalize BA (AP s 0).2.1 (AP s 0).2.2=x2 at*
   generalize BA s 0=x at*
   simp(disch:=first|assumption|omega|(with_reducible rfl)|(simp only[go_sem];done)|(simp only[go_sem];omega)|fail) only[↓reduceIte,↓AL,Nat.reduceAdd,go_sem,nm,b1,w5,ub]
   rfl
  ·have b1:AO .lss (.int .i64 b.step) (.int .i64 0)=some (.bool false):=by rw[b_lss,decide_eq_false c1]
   have b2:Hz .u64 (.int .i64 b.step)=some (.int .u64 b.step):=cvI_u64 (by omega) (by omega)
   by_cases c2:((AP s 0).1:Int)=b.step
   ·have b3:AO .neq (.int .u64 ((AP s 0).1:Int)) (.int .u64 b.step)=some (.bool false):=by rw[b_neq,c2];simp
    have b4:AO .geq (.int .i64 b.step) (.int .i64 j.steps)=some (.bool true):=by
     rw[b_geq]
     by_cases c3:b.step<j.steps
     ·exact absurd (by simp only[AH1,Bool.and_eq_true,decide_eq_true_eq];exact⟨by omega,c2,c3⟩) hm
     ·rw[decide_eq_true (by omega)]
    clear c1 hm lt c2
    generalize ((AP s 0).1:Int)=n at*
    generalize BA (AP s 0).2.1 (AP s 0).2.2=x2 at*
    generalize BA s 0=x at*
    simp(disch:=first|assumption|omega|(with_reducible rfl)|(simp only[go_sem];done)|(simp only[go_sem];omega)|fail) only[↓reduceIte,↓AL,Nat.reduceAdd,go_sem,nm,b1,b2,b3,b4,w5,ub]
    rfl
   ·have b3:AO .neq (.int .u64 ((AP s 0).1:Int)) (.int .u64 b.step)=some (.bool true):=by rw[b_neq];simp[c2]
    clear c1 hm lt c2
    generalize ((AP s 0).1:Int)=n at*
    generalize BA (AP s 0).2.1 (AP s 0).2.2=x2 at*
    generalize BA s 0=x at*
    simp(disch:=first|assumption|omega|(with_reducible rfl)|(simp only[go_sem];done)|(simp only[go_sem];omega)|fail) only[↓reduceIte,↓AL,Nat.reduceAdd,go_sem,nm,b1,b2,b3,w5,ub]
    rfl
end
def Ub (g:Grf) (j:Job) (b:Bk) (rec:List UInt8):Option Bk:=
 if(AP rec 0).1=65 then(if(MP j b (AP rec 0).2.1).2.1=true then some (MP j b (AP rec 0).2.1).1 else none)
 else if(AP rec 0).1=69 then evB g j b (AP rec 0).2.1 else none
set_option maxHeartbeats 4000000 in
theorem AH2 {g:Grf} (hl:g.es.length<1000000) {j:Job} {b:Bk} (hg:DC g j (b.gone.length:Int)=true) (hr:b.roots.length=b.gone.length) (h64:b.step<9223372036854775807) {rec:List UInt8} (hrec:rec.length<1000000000):
 Cl 23 [vG .sh g,vJ j,vB b,.str rec] []=some (.tup [vB (ZH (Ub g j b rec)),.int .i64 (if(Ub g j b rec).isSome=true then 0 else 171)],[]):=by
 have hlen:1≤b.gone.length∧b.gone.length≤64:=by
  simp only[DC,Bool.and_eq_true,decide_eq_true_eq]at hg;omega
 have nl:=Ea rec 0
 by_cases h69:(AP rec 0).1=69
 ·have he:(AP rec 0).2.2=0:=by
   by_cases h:(AP rec 0).2.2=0
   ·exact h
   ·have:=AC9 h;omega
  have h:=AD6 hl hg hr (rec:=rec) (s:=(AP rec 0).2.1) (by omega) (Prod.ext h69 (Prod.ext rfl he)) (by omega)
  have e:Ub g j b rec=evB g j b (AP rec 0).2.1:=by rw[Ub,if_neg (by rw[h69];decide),if_pos h69]
  rw[h,e]
 have hN:Cl 10 [vG .sh g,vJ j,.int .i64 (b.gone.length:Int)] []=some (.tup [vB (Bd g j b.gone.length),.int .i64 0],[]):=by
  have h:=MO hl j (b.gone.length:Int)
  rw[if_pos hg]at h
  rw[h];rfl
 have n54:=FU [vG .sh g,vJ j,vB b,Ht,vB (Bd g j b.gone.length)] rec
 have n55:Cl 55 [CP 5] [vG .sh g,vJ j,vB b,Ht,vB (Bd g j b.gone.length),BA rec 0,Ht]=some (.int .u64 ((AP rec 0).1:Int),[vG .sh g,vJ j,vB b,Ht,vB (Bd g j b.gone.length),BA (AP rec 0).2.1 (AP rec 0).2.2,Ht]):=G8 (id:=5) rfl (by omega)
 by_cases h65:(AP rec 0).1=65
 ·have he:(AP rec 0).2.2=0:=by
   by_cases h:(AP rec 0).2.2=0
   ·exact h
   ·have:=AC9 h;omega
  have pb:∀b:Bk,(vB b).pl=true:=fun b=>by simp only[V.pl,G5,Eb,Ec,Qr,Gt];rfl
  have pg:(vG .sh g).pl=true:=by simp only[go_sem]
  have hw:BP 11 [vG .sh g,vJ j,vB b,Ht,vB (Bd g j b.gone.length),Ht,vJ j,vB b,Ht]=true:=by
   simp only[BP,(V.PF _ (pb _)).away,(V.PF _ pg).away];rfl
  have n56:=AEB hw (by omega) (by omega) (by omega) h64 (s:=(AP rec 0).2.1) (by omega)
  rw[h65,he]at n55
  rw[Ub,if_pos h65,L6]
  clear hw
  generalize BA (MP j b (AP rec 0).2.1).2.2.1 (MP j b (AP rec 0).2.1).2.2.2=i2 at*
  generalize Bd g j b.gone.length=nb at*
  simp only[List.length_cons,List.length_nil,Nat.zero_add,Nat.reduceAdd]at n54
  cases ha:(MP j b (AP rec 0).2.1).2.1 with
  |false=>
   rw[ha]at n56
   simp only[ZH,Option.getD_none,Option.isSome_none,zB,List.map_nil,Bool.false_eq_true,if_false]at n56⊢
   generalize (MP j b (AP rec 0).2.1).1=c at*
   generalize BA (AP rec 0).2.1 0=i1 at*
   simp(disch:=first|assumption|omega|(with_reducible rfl)|(simp only[go_sem];done)|(simp only[go_sem];omega)|fail) only[↓reduceIte,↓AL,Nat.reduceAdd,go_sem,n54,n55,n56,hN,hr]
   rfl
  |true=>
   rw[ha]at n56
   simp only[ZH,Option.getD_some,Option.isSome_some,if_true]at n56⊢
   generalize (MP j b (AP rec 0).2.1).1=c at*
   generalize BA (AP rec 0).2.1 0=i1 at*
   simp(disch:=first|assumption|omega|(with_reducible rfl)|(simp only[go_sem];done)|(simp only[go_sem];omega)|fail) only[↓reduceIte,↓AL,Nat.reduceAdd,go_sem,n54,n55,n56,hN,hr]
 ·rw[Ub,if_neg h65,if_neg h69,L6]
  have q1:AO .eql (.int .u64 ((AP rec 0).1:Int)) (.int .u64 65)=some (.bool false):=by rw[b_eql,decide_eq_false (by omega)]
  have q2:AO .eql (.int .u64 ((AP rec 0).1:Int)) (.int .u64 69)=some (.bool false):=by rw[b_eql,decide_eq_false (by omega)]
  generalize BA (AP rec 0).2.1 (AP rec 0).2.2=i1 at*
  generalize ((AP rec 0).1:Int)=n at*
  generalize Bd g j b.gone.length=nb at*
  simp only[List.length_cons,List.length_nil,Nat.zero_add,Nat.reduceAdd]at n54
  simp only[ZH,Option.getD_none,Option.isSome_none,zB,List.map_nil,Bool.false_eq_true,if_false]
  simp(disch:=first|assumption|omega|(with_reducible rfl)|(simp only[go_sem];done)|(simp only[go_sem];omega)|fail) only[↓reduceIte,↓AL,Nat.reduceAdd,go_sem,n54,n55,hN,hr,q1,q2]
  rfl
end
end Go.Proofs.YtiegkempfolgcaaGreatDoor
