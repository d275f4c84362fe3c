/-
  Part of the proof of a statement about the given program: an abstract machine over its code, the simulation, its functions' equations, what they compute.
-/
import Derived.Test.YtiegkempfolgcaaGreatDoorMg10
import Derived.Test.YtiegkempfolgcaaGreatDoorMg11
import Derived.Test.YtiegkempfolgcaaGreatDoorMg4
import Derived.Test.YtiegkempfolgcaaGreatDoorMg5
import Derived.Test.YtiegkempfolgcaaGreatDoorMg8
import Derived.Test.YtiegkempfolgcaaGreatDoorMg9
set_option linter.unusedVariables false
set_option linter.unusedSimpArgs false
set_option linter.unusedSectionVars false
set_option maxRecDepth 100000
noncomputable section
namespace Go.Proofs.YtiegkempfolgcaaGreatDoor
section
open Go AM
namespace Ed
structure Edg where
 fr:Nat
 to:Nat
 w:Int
 hf:fr<64
 ht:to<64
instance:Inhabited Edg:=⟨⟨0,0,0,by omega,by omega⟩⟩
def vEdg (e:Edg):V:= .agg 111 [.int .i64 (e.fr:Int),.int .i64 (e.to:Int),.int .i64 e.w]
def cmpE (x y:Edg):Int:=if x.fr=y.fr then(x.to:Int)-y.to else(x.fr:Int)-y.fr
def ltE (x y:Edg):Bool:=decide (cmpE x y<0)
@[go_sem] theorem AP0 (x:Edg):(vEdg x).pl=true:=(rfl)
@[go_sem] theorem AOg (x:Edg):BK 111 (vEdg x)=true:=Hu ..
theorem compare_am (x y:Edg):Cl 91 [vEdg x,vEdg y] []=some (.int .i64 (cmpE x y),[]):=by
 have h1:=x.hf;have h2:=x.ht;have h3:=y.hf;have h4:=y.ht
 rw[ALQ,cmpE]
 by_cases h:x.fr=y.fr
 ·rw[if_pos h]
  simp only[vEdg]
  simp(disch:=first|assumption|omega|(with_reducible rfl)|(simp only[go_sem];done)|(simp only[go_sem];omega)|fail) only[↓reduceIte,↓AA,Nat.reduceAdd,go_sem,h]
 ·rw[if_neg h]
  have:¬(x.fr:Int)=(y.fr:Int):=by omega
  simp only[vEdg]
  simp(disch:=first|assumption|omega|(with_reducible rfl)|(simp only[go_sem];done)|(simp only[go_sem];omega)|fail) only[↓reduceIte,↓AA,Nat.reduceAdd,go_sem]
theorem ltE_iff (x y:Edg):ltE x y=true↔(x.fr<y.fr∨x.fr=y.fr∧x.to<y.to):=by
 rw[ltE,decide_eq_true_eq,cmpE]
 by_cases h:x.fr=y.fr
 ·rw[if_pos h];constructor<;>intro k<;>omega
 ·rw[if_neg h];constructor<;>intro k<;>omega
theorem ltE_iff' (x y:Edg):ltE x y=false↔¬(x.fr<y.fr∨x.fr=y.fr∧x.to<y.to):=by
 rw[←ltE_iff,Bool.not_eq_true]
abbrev cm:V:= .clo 91 []
def rowM (d:Array Edg):V:= .row 112 (d.toList.map vEdg)
def winM (id n:Nat):V:= .win id [] 0 n 112
def OG (e:Edg):Int×Int×Int:=(e.fr,e.to,e.w)
theorem AFf {α β:Type} (f:α→β) {r s:List β} (h:r.Perm s):∀l:List α,l.map f=s→∃l':List α,l'.Perm l∧l'.map f=r:=by
 induction h with
 |nil=>intro l hl;exact⟨l,List.Perm.refl _,hl⟩
 |cons x h ih=>
  intro l hl
  match l,hl with
  |y::l,hl=>
   simp only[List.map_cons,List.cons.injEq]at hl
   obtain⟨l',h1,h2⟩:=ih l hl.2
   exact⟨y::l',h1.cons y,by rw[List.map_cons,hl.1,h2]⟩
 |swap x y r=>
  intro l hl
  match l,hl with
  |a::b::l,hl=>
   simp only[List.map_cons,List.cons.injEq]at hl
   exact⟨b::a::l,List.Perm.swap a b l,by simp[hl]⟩
 |trans h1 h2 ih1 ih2=>
  intro l hl
  obtain⟨l1,a1,a2⟩:=ih2 l hl
  obtain⟨l2,b1,b2⟩:=ih1 l1 a2
  exact⟨l2,b1.trans a1,b2⟩
theorem U4 (l:List Edg):∃l':List Edg,l'.Perm l∧l'.map OG=EX 1 (l.map OG):=AFf OG (JH 1 _) l rfl
def srtL (l:List Edg):List Edg:=Classical.choose (U4 l)
theorem srtL_perm (l:List Edg):(srtL l).Perm l:=(Classical.choose_spec (U4 l)).1
theorem XB (l:List Edg):(srtL l).map OG=EX 1 (l.map OG):=(Classical.choose_spec (U4 l)).2
theorem Yw (x:Edg):OQ 1 (OG x)=true:=by
 have:=x.hf;have:=x.ht
 refine Bool.or_eq_true_iff.2 (Or.inr ?_)
 simp only[Bool.and_eq_true,OG]
 refine⟨⟨⟨?_,?_⟩,?_⟩,?_⟩<;>exact decide_eq_true (by omega)
theorem Yx (x y:Edg):decide (Qn 1 (OG x) (OG y)<0)=ltE x y:=by
 rw[Bool.eq_iff_iff,decide_eq_true_eq,ltE_iff]
 unfold Qn cl3
 rw[if_pos (Yw x),if_pos (Yw y),AJ5 (by rfl)]
 simp only[OG];omega
theorem srtL_sorted (l:List Edg):(srtL l).Pairwise (fun a b=>ltE b a=false):=by
 have h:=(XA 1 (l.map OG)).2
 rw[←XB]at h
 rw[List.pairwise_iff_getElem]
 intro i j hi hj hij
 have hlen:=(srtL_perm l).length_eq
 have:=h i j (Nat.zero_le _) hij (by simp;omega)
 simp only[List.getElem!_toArray,List.getElem!_eq_getElem?_getD,List.getElem?_map,List.getElem?_eq_getElem hi,List.getElem?_eq_getElem hj,Option.map_some,Option.getD_some]at this
 rw[Yx]at this
 exact this
theorem AFg (u:TypeId):∀l:List Edg,(l.map vEdg).all (i3t 111)=true
 |[]=>rfl
 |x::l=>by rw[List.map_cons,List.all_cons,AFg u l];rfl
theorem AJ6:∀l:List Edg,(l.map vEdg).all (fun x=>OQ 1 (t3 x))=true
 |[]=>rfl
 |x::l=>by rw[List.map_cons,List.all_cons,AJ6 l,Bool.and_true];exact Yw x
theorem AOh (l:List Edg):(l.map vEdg).map t3=l.map OG:=by rw[List.map_map];rfl
theorem AOi (l:List Edg):(l.map OG).map (YJ 111)=l.map vEdg:=by rw[List.map_map];rfl
theorem sort_aps {h:List V} {id:Nat} {l:List Edg} (hh:h[id]?=some (rowM l.toArray)) (hl:l.length≤1000000):
 aps 1000091 112 [winM id l.length,cm] h=some (.tup [],h.set id (rowM (srtL l).toArray)):=by
 have hd:1000091/1000000=1:=rfl
 have tg:(l.map vEdg).all (i3t (Tz (l.map vEdg)))=true:=by
  cases l with
  |nil=>rfl
  |cons x l=>exact AFg 0 (x::l)
 have mk:((EX 1 (l.map OG)).map (YJ (Tz (l.map vEdg))))=(srtL l).map vEdg:=by
  rw[←XB]
  cases l with
  |nil=>rw[List.perm_nil.1 (srtL_perm [])];rfl
  |cons x l=>exact AOi _
 simp only[aps,winM,rowM]at hh⊢
 have e1:Nat.beq l.length (l.map vEdg).length=true:=by simp
 have e2:Nat.ble (l.map vEdg).length Dh=true:=by simp[Dh,Nat.ble_eq];omega
 simp only[hh,hd]
 rw[if_pos (by simp only[tg,AJ6,e1,e2];rfl),AOh,mk]
end Ed
end
section
open Go AM
structure E0 where
 fr:Int
 to:Int
 w:Int
 deriving DecidableEq
abbrev tE:TypeId:=111
def Pv (e:E0):V:= .agg tE [.int .i64 e.fr,.int .i64 e.to,.int .i64 e.w]
@[go_sem] theorem AQ9 (x:E0):(Pv x).pl=true:=(rfl)
@[go_sem] theorem AIO (l:List E0):Gj (l.map Pv)=true:=Dk (fun _=>rfl) l
@[go_sem] theorem AIP (x:E0):BK tE (Pv x)=true:=Hu ..
theorem ABQ {l:List E0} {i:Nat} (h:i<l.length):(l.map Pv)[i]?=some (Pv l[i]):=by simp[h]
structure Grf where
 n:Int
 es:List E0
abbrev vG (f:Fl) (g:Grf):V:= .agg 23 [.int .i64 g.n,.lst 112 f (g.es.map Pv)]
def F9 (n:Int) (e:E0):Bool:=decide (e.fr<0)||decide (n≤e.fr)||decide (e.to<0)||decide (n≤e.to)||decide (e.w<0)||decide (1048576<e.w)
abbrev rG:V:= .ref 0 [] 24
theorem AL4 (n:Int) (l:V) (e:E0):Cl 87 [Pv e,rG] [.agg 23 [.int .i64 n,l]]=some (.bool (F9 n e),[.agg 23 [.int .i64 n,l]]):=by
 rw[ALM]
 simp only[Pv]
 repeat' first|rfl|refine Wy (fun _=> ?_) (fun _=> ?_)|refine W9 (fun _=> ?_) (fun _=> ?_)|simp(disch:=first|assumption|omega|(with_reducible rfl)|(simp only[go_sem];done)|(simp only[go_sem];omega)|fail) only[↓reduceIte,↓AA,Nat.reduceAdd,go_sem]
 all_goals (simp_all [F9]<;>omega)
abbrev AIQ:V:= .clo 87 [rG]
theorem AOj {R:Type} (n:Int) (l:V) (e:E0) (k:V→List V→Option R):CB P Dn W AIQ [Pv e] [.agg 23 [.int .i64 n,l]] k=k (.bool (F9 n e)) [.agg 23 [.int .i64 n,l]]:=
 Lm k (by kernel_rfl) (by kernel_rfl) (AL4 n l e)
def Hf {α:Type} (p:α→Bool):Nat→List α→Int
 |_,[]=> -1
 |i,x::l=>if p x=true then(i:Int)else Hf p (i+1) l
theorem XC {α:Type} (p:α→Bool):∀(l:List α) (i:Nat),0≤Hf p i l↔l.any p=true
 |[],i=>by simp[Hf]
 |x::l,i=>by
  rw[Hf,List.any_cons]
  by_cases h:p x=true
  ·rw[if_pos h,h];simp
  ·rw[if_neg h,XC p l (i+1)];simp[h]
theorem U5 {α:Type} (p:α→Bool) (l:List α) (i:Nat):decide (0≤Hf p i l)=l.any p:=by
 rw[Bool.eq_iff_iff,decide_eq_true_eq];exact XC p l i
theorem AIR (n:Int) (L:V) (es:List E0) (hl:es.length<1000000) (f:Fl):∀(m i:Nat),i+m=es.length→
 Na (.lst 112 f (es.map Pv)) AIQ (.int .i64 (es.length:Int)) (.int .i64 (i:Int)) 1 [.agg 23 [.int .i64 n,L]]=
  some (.int .i64 (Hf (F9 n) i (es.drop i)),[.agg 23 [.int .i64 n,L]]):=by
 intro m
 induction m with
 |zero=>
  intro i hi
  rw[List.drop_eq_nil_of_le (by omega),Oj]
  simp(disch:=first|assumption|omega|(with_reducible rfl)|(simp only[go_sem];done)|(simp only[go_sem];omega)|fail) only[↓reduceIte,↓AA,Nat.reduceAdd,go_sem,Hf]
 |succ m ih=>
  intro i hi
  have h:i<es.length:=by omega
  have:=ih (i+1) (by omega)
  rw[List.drop_eq_getElem_cons h,Hf,Oj]
  by_cases ho:F9 n es[i]=true
  ·rw[if_pos ho]
   simp(disch:=first|assumption|omega|(with_reducible rfl)|(simp only[go_sem];done)|(simp only[go_sem];omega)|fail) only[↓reduceIte,↓AA,Nat.reduceAdd,go_sem,ABQ h,AOj,ho]
  ·rw[if_neg ho,←this]
   simp(disch:=first|assumption|omega|(with_reducible rfl)|(simp only[go_sem];done)|(simp only[go_sem];omega)|fail) only[↓reduceIte,↓AA,Nat.reduceAdd,go_sem,ABQ h,AOj,ho]
theorem AIS (n:Int) (L:V) {es:List E0} (hl:es.length<1000000) (f:Fl):Cl 88 [.lst 112 f (es.map Pv),AIQ] [.agg 23 [.int .i64 n,L]]=some (.bool (es.any (F9 n)),[.agg 23 [.int .i64 n,L]]):=by
 have h:=fun f=>AIR n L es hl f es.length 0 (by omega)
 simp only[c0,List.drop_zero]at h
 have ix:∀f,Cl 112 [.lst 112 f (es.map Pv),AIQ] [.agg 23 [.int .i64 n,L]]=some (.int .i64 (Hf (F9 n) 0 es),[.agg 23 [.int .i64 n,L]]):=fun f=>by
  rw[←h f,AHe]
  simp(disch:=first|assumption|omega|(with_reducible rfl)|(simp only[go_sem];done)|(simp only[go_sem];omega)|fail) only[↓reduceIte,↓AA,Nat.reduceAdd,go_sem]
 rw[ALN,←U5 (F9 n) es 0]
 simp(disch:=first|assumption|omega|(with_reducible rfl)|(simp only[go_sem];done)|(simp only[go_sem];omega)|fail) only[↓reduceIte,↓AA,Nat.reduceAdd,go_sem,ix]
def AFh (n:Int) (e:E0) (h:F9 n e=false) (hn:n≤64):Ed.Edg:=⟨e.fr.toNat,e.to.toNat,e.w,by simp[F9]at h;omega,by simp[F9]at h;omega⟩
theorem AFi {n:Int} (hn:n≤64):∀es:List E0,es.any (F9 n)=false→∃l:List Ed.Edg,l.map Ed.vEdg=es.map Pv∧l.map (fun x=>((x.fr:Int),(x.to:Int)))=es.map fun e=>(e.fr,e.to)
 |[],_=>⟨[],rfl,rfl⟩
 |e::es,h=>by
  rw[List.any_cons,Bool.or_eq_false_iff]at h
  obtain⟨l,h1,h2⟩:=AFi hn es h.2
  have hb:=h.1
  simp only[F9,Bool.or_eq_false_iff,decide_eq_false_iff_not]at hb
  refine⟨AFh n e h.1 hn::l,?_,?_⟩
  ·rw[List.map_cons,List.map_cons,h1,Ed.vEdg,Pv,AFh]
   simp only[]
   rw[show(e.fr.toNat:Int)=e.fr by omega,show(e.to.toNat:Int)=e.to by omega]
  ·rw[List.map_cons,List.map_cons,h2,AFh]
   simp only[]
   rw[show(e.fr.toNat:Int)=e.fr by omega,show(e.to.toNat:Int)=e.to by omega]
abbrev Qr (f:Fl) (l:List Ed.Edg):V:= .lst 112 f (l.map Ed.vEdg)
def EF (l:List Ed.Edg):List Ed.Edg:=Ed.srtL l
theorem Px (l:List Ed.Edg):(EF l).Perm l:=Ed.srtL_perm l
theorem SX (l:List Ed.Edg):(EF l).length=l.length:=(Px l).length_eq
theorem ACN (a:V) (f:Fl) (l:List Ed.Edg):Cl 90 [Qr .sh l] [a]=some (.clo 115 [.ref 1 [] 22],[a,Qr .sh l]):=by
 rw[ALP]
 simp(disch:=first|assumption|omega|(with_reducible rfl)|(simp only[go_sem];done)|(simp only[go_sem];omega)|fail) only[↓reduceIte,↓AA,Nat.reduceAdd,go_sem]
 rfl
theorem AL5 (l:List Ed.Edg):(l.map Ed.vEdg).all i3=true:=by simp[Ed.vEdg,i3]
theorem Yy (a:V) {l:List Ed.Edg} (hl:l.length≤1000000):Cl 113 [.clo 115 [.ref 1 [] 22]] [a,Qr .sh l]=some (Ed.winM 2 l.length,[a,Qr .sh l,Ed.rowM l.toArray]):=by
 rw[AHf]
 have ap:aps 115 112 [.lst 112 .nil [],.clo 115 [.ref 1 [] 22]] [a,Qr .sh l]=some (Ed.winM 2 l.length,[a,Qr .sh l,Ed.rowM l.toArray]):=by
  simp only[aps,List.getElem?_cons_succ,List.getElem?_cons_zero,AL5,List.length_map]
  rw[if_pos (by simp[Dh,Nat.ble_eq];omega)]
  simp[Ed.winM,Ed.rowM]
 rw[ap];rfl
theorem Yz (a:V) {l:List Ed.Edg} (hl:l.length≤1000000):Cl 89 [.clo 115 [.ref 1 [] 22],Ed.cm] [a,Qr .sh l]=some (Qr .sh (EF l),[a,Qr .sh l]):=by
 have c:=Yy a hl
 have s:aps 1000091 112 [Ed.winM 2 l.length,Ed.cm] [a,Qr .sh l,Ed.rowM l.toArray]=some (.tup [],[a,Qr .sh l,Ed.rowM (EF l).toArray]):=Ed.sort_aps rfl hl
 have ct:Ah [a,Qr .sh l,Ed.rowM (EF l).toArray] (Ed.winM 2 l.length)=some ((EF l).map Ed.vEdg):=by
  simp[Ah,Ed.winM,rd,V.at,V.items,Ed.rowM]
  rw[←SX l];exact List.take_of_length_le (by simp)
 have cl:AY ((EF l).map Ed.vEdg)=true:=ACK (Dk (fun _=>rfl) _)
 have nl:AP ((EF l).map Ed.vEdg)=(EF l).map Ed.vEdg:=AFc (Dk (fun _=>rfl) _)
 have fin:AV 2 [a,Qr .sh l,Ed.rowM (EF l).toArray] (Ed.winM 2 l.length)=some (Qr .sh (EF l),[a,Qr .sh l]):=by
  have u:(Ed.winM 2 l.length).unmut [a,Qr .sh l,Ed.rowM (EF l).toArray]=Qr .sh (EF l):=by
   rw[Ed.winM]at ct⊢
   simp only[V.unmut,ct,cl,nl,if_true]
  simp only[AV,u];rfl
 rw[ALO]
 refine(AB c _).trans ?_
 refine(AB s _).trans ?_
 exact fin
def XD:Ed.Edg→List Ed.Edg→Bool
 |_,[]=>false
 |x,y::r=>decide (Ed.cmpE x y=0)||XD y r
@[go_sem] theorem AP1 (l:List Ed.Edg):Gj (l.map Ed.vEdg)=true:=Dk (fun _=>rfl) l
theorem U6 {l:List Ed.Edg} {i:Nat} (h:i<l.length):(l.map Ed.vEdg)[i]?=some (Ed.vEdg l[i]):=by simp[h]
theorem AIT (a b:V) {l:List Ed.Edg} (hl:l.length≤1000000):∀(n i:Nat) (hi:i<l.length),i+1+n=l.length→
 Og (Qr .sh l) (.int .i64 ((i+1:Nat):Int)) [a,b]=some (.int .i64 (if XD l[i] (l.drop (i+1))=true then 51 else 0),[]):=by
 intro n
 induction n with
 |zero=>
  intro i hi hn
  rw[List.drop_eq_nil_of_le (by omega),XD,Le]
  simp(disch:=first|assumption|omega|(with_reducible rfl)|(simp only[go_sem];done)|(simp only[go_sem];omega)|fail) only[↓reduceIte,↓AA,Nat.reduceAdd,go_sem]
  rfl
 |succ n ih=>
  intro i hi hn
  have h:i+1<l.length:=by omega
  have:=ih (i+1) h (by omega)
  rw[List.drop_eq_getElem_cons h,XD,Le]
  by_cases hc:Ed.cmpE l[i] l[i+1]=0
  ·rw[decide_eq_true hc,Bool.true_or,if_pos rfl]
   simp(disch:=first|assumption|omega|(with_reducible rfl)|(simp only[go_sem];done)|(simp only[go_sem];omega)|fail) only[↓reduceIte,↓AA,Nat.reduceAdd,go_sem,U6 hi,U6 h,Ed.compare_am,hc,Nat.add_sub_cancel]
  ·rw[decide_eq_false hc,Bool.false_or,←this]
   simp(disch:=first|assumption|omega|(with_reducible rfl)|(simp only[go_sem];done)|(simp only[go_sem];omega)|fail) only[↓reduceIte,↓AA,Nat.reduceAdd,go_sem,U6 hi,U6 h,Ed.compare_am,Nat.add_sub_cancel]
def KR (x:Ed.Edg):Int×Int:=((x.fr:Int),(x.to:Int))
theorem AIU (x y:Ed.Edg):Ed.cmpE x y=0↔KR x=KR y:=by
 rw[Ed.cmpE,KR,KR,Prod.mk.injEq]
 by_cases h:x.fr=y.fr
 ·rw[if_pos h];omega
 ·rw[if_neg h];omega
theorem XE {x y:Ed.Edg} (h:Ed.ltE y x=false) (hn:KR x≠KR y):Ed.ltE x y=true:=by
 rw[Ed.ltE_iff']at h
 rw[Ed.ltE_iff]
 simp only[KR,ne_eq,Prod.mk.injEq]at hn
 omega
theorem ABR:∀(r:List Ed.Edg) (x:Ed.Edg),(x::r).Pairwise (fun a b=>Ed.ltE b a=false)→(XD x r=false↔((x::r).map KR).Nodup)
 |[],x,_=>by simp[XD]
 |y::r,x,h=>by
  obtain⟨h1,h2⟩:=List.pairwise_cons.1 h
  have ih:=ABR r y h2
  rw[XD,Bool.or_eq_false_iff,ih,decide_eq_false_iff_not,AIU,List.map_cons (l:=y::r),List.nodup_cons]
  refine and_congr_left fun hd=>⟨fun hn hm=> ?_,fun hm he=>hm (by rw[he];simp)⟩
  obtain⟨z,hz,he⟩:=List.mem_map.1 hm
  rcases List.mem_cons.1 hz with rfl|hz
  ·exact hn he.symm
  ·have a:=XE (h1 y List.mem_cons_self) hn
   have b:=(List.pairwise_cons.1 h2).1 z hz
   rw[Ed.ltE_iff]at a
   rw[Ed.ltE_iff']at b
   simp only[KR,Prod.mk.injEq]at he
   omega
theorem U7 (l:List Ed.Edg):(EF l).Pairwise (fun a b=>Ed.ltE b a=false):=Ed.srtL_sorted l
def Jw (g:Grf):Int:=if 1≤g.n∧g.n≤64∧g.es.length≤512∧g.es.any (F9 g.n)=false then(if(g.es.map fun e=>(e.fr,e.to)).Nodup then 0 else 51)else 50
theorem ACO {g:Grf} (hl:g.es.length<1000000):Cl 61 [vG .sh g] []=some (.int .i64 (Jw g),[]):=by
 have an:=AIS g.n (.lst 112 .sh (g.es.map Pv)) hl .sh
 by_cases h1:g.n<1
 ·rw[Jw,if_neg (by omega),Oh]
  simp(disch:=first|assumption|omega|(with_reducible rfl)|(simp only[go_sem];done)|(simp only[go_sem];omega)|fail) only[↓reduceIte,↓AA,Nat.reduceAdd,go_sem]
 by_cases h2:64<g.n
 ·rw[Jw,if_neg (by omega),Oh]
  simp(disch:=first|assumption|omega|(with_reducible rfl)|(simp only[go_sem];done)|(simp only[go_sem];omega)|fail) only[↓reduceIte,↓AA,Nat.reduceAdd,go_sem]
 by_cases h3:512<g.es.length
 ·rw[Jw,if_neg (by omega),Oh]
  simp(disch:=first|assumption|omega|(with_reducible rfl)|(simp only[go_sem];done)|(simp only[go_sem];omega)|fail) only[↓reduceIte,↓AA,Nat.reduceAdd,go_sem]
 by_cases h4:g.es.any (F9 g.n)=true
 ·rw[Jw,if_neg (by rw[h4];simp),Oh]
  simp(disch:=first|assumption|omega|(with_reducible rfl)|(simp only[go_sem];done)|(simp only[go_sem];omega)|fail) only[↓reduceIte,↓AA,Nat.reduceAdd,go_sem,an,h4]
 have h4:g.es.any (F9 g.n)=false:=by simpa using h4
 obtain⟨l,l1,l2⟩:=AFi (by omega) g.es h4
 have hlen:l.length=g.es.length:=by have:=congrArg List.length l1;simpa using this
 have v:=ACN (vG .sh g) .sh l
 have st:=Yz (vG .sh g) (l:=l) (by omega)
 have hsl:=SX l
 have hnd:(g.es.map fun e=>(e.fr,e.to)).Nodup↔((EF l).map KR).Nodup:=by
  rw[←l2];exact(((Px l).map KR).nodup_iff).symm
 have so:=U7 l
 rw[Jw,if_pos ⟨by omega,by omega,by omega,h4⟩]
 have e:(if(g.es.map fun e=>(e.fr,e.to)).Nodup then(0:Int)else 51)=(if((EF l).map KR).Nodup then(0:Int)else 51):=by
  by_cases hh:(g.es.map fun e=>(e.fr,e.to)).Nodup
  ·rw[if_pos hh,if_pos (hnd.1 hh)]
  ·rw[if_neg hh,if_neg (fun k=>hh (hnd.2 k))]
 rw[e]
 have rest:Og (Qr .sh (EF l)) (.int .i64 1) [vG .sh g,Qr .sh l]=some (.int .i64 (if((EF l).map KR).Nodup then(0:Int)else 51),[]):=by
  cases hs:EF l with
  |nil=>
   rw[Le]
   simp(disch:=first|assumption|omega|(with_reducible rfl)|(simp only[go_sem];done)|(simp only[go_sem];omega)|fail) only[↓reduceIte,↓AA,Nat.reduceAdd,go_sem]
   rfl
  |cons x r=>
   have:=AIT (vG .sh g) (Qr .sh l) (l:=x::r) (by rw[←hs];omega) r.length 0 (by simp) (by simp;omega)
   simp only[Nat.zero_add,c1,List.getElem_cons_zero,List.drop_succ_cons,List.drop_zero]at this
   rw[this]
   rw[hs]at so
   have ai:=ABR r x so
   by_cases hh:((x::r).map KR).Nodup
   ·rw[if_pos hh,if_neg (by rw[ai.2 hh];simp)]
   ·rw[if_neg hh,if_pos (by cases ha:XD x r with
     |true=>rfl
     |false=>exact absurd (ai.1 ha) hh)]
 have l3:l.length≤512:=by omega
 simp only[vG,←l1]at an v st rest⊢
 rw[Oh]
 generalize EF l=s at*
 simp(disch:=first|assumption|omega|(with_reducible rfl)|(simp only[go_sem];done)|(simp only[go_sem];omega)|fail) only[↓reduceIte,↓AA,Nat.reduceAdd,go_sem,an,h4,v,st,rest]
end
section
open Go AM
def I64 (n:Int):Prop:= -9223372036854775808≤n∧n<9223372036854775808
end
section
open Go AM
structure Vtx where
 id:Int
 val:Int
 act:Bool
 has:Bool
 inn:Int
 deriving DecidableEq
def VOk (x:Vtx):Prop:=I64 x.id∧I64 x.val∧I64 x.inn
abbrev tVx:TypeId:=80
def Ja (x:Vtx):V:= .agg tVx [.int .i64 x.id,.int .i64 x.val,.bool x.act,.bool x.has,.int .i64 x.inn]
@[go_sem] theorem ARB (x:Vtx):(Ja x).pl=true:=(rfl)
@[go_sem] theorem AIV (l:List Vtx):Gj (l.map Ja)=true:=Dk (fun _=>rfl) l
@[go_sem] theorem AP2 (x:Vtx):BK tVx (Ja x)=true:=Hu ..
@[go_sem] theorem AP3 (l:List Vtx):(l.map Ja).all (BK tVx)=true:=all_map (fun _=>Hu ..) l
theorem AOk {l:List Vtx} {i:Nat} (h:i<l.length):(l.map Ja)[i]?=some (Ja l[i]):=by simp[h]
end
section
open Go AM
abbrev iv (n:Nat):V:= .int .i64 (n:Int)
theorem ABS {B:Type} {h:List V} {x:Int} (h0:0≤x) (h1:x<9223372036854775808) (K:V→Option B):(conv P h 3 93 (.int .i64 x)).bind K=K (.int .u64 (x.toNat:Int)):=by
 refine(AB (Ba GZ ..) _).trans ?_
 rw[wrap_u64 (by omega) (by omega)]
 congr 2;omega
def sL (f:Fl) (l:List (List UInt8)):V:= .lst 9 f (l.map V.str)
theorem AJ7 (s:List UInt8):BN P 9 (.str s)=true:=by simp[BN,K_9,BO,GH]
theorem AL7 (n:Nat) (h:List V) (f:Fl) (hf:f≠ .lent) (l:List (List UInt8)):AV n h (sL f l)=some (sL .sh l,h.take n):=by
 cases f<;>first|exact absurd rfl hf|rfl
theorem SY:∀(n:Nat) (l:List (List UInt8)),Ae n (l.map V.str)=true
 |_,[]=>rfl
 |n,x::l=>by simp only[List.map_cons,Ae,SY n l];rfl
theorem AFj (n:Nat) (f:Fl) (l:List (List UInt8)):(sL f l).under n=true:=by cases f<;>first|rfl|exact SY n l
theorem AOl {B:Type} {f:Fl} {h:List V} {l:List (List UInt8)} (hf:OK f) (hl:l.length+1≤2147483648) (x:List UInt8) (K':V→Option B):
 (Ew P 58 1 [(0,.str x)]).bind (fun y=>(EK P 58 h (sL f l) y).bind K')=K' (sL .own (l++[x])):=by
 refine(AB (AFS AHw (AJ7 x) rfl ALX ⟨_,rfl⟩) _).trans ?_
 have t1:Hr P 9 [V.str x]=true:=by simp[Hr,AJ7]
 refine(AB (AFR AHw hf (y:=V.lst 9 .own [.str x]) rfl rfl t1 (by simpa using hl) ALX) _).trans ?_
 rw[sL,List.map_append];rfl
end
section
open Go AM
theorem AOm (a b:List UInt8):Ew P 182 2 [(0,bL .own a),(1,bL .own b)]=some (.lst 68 .own (parts [(.sh,a),(.sh,b)])):=by
 simp[Ew,PV,Cb,tyB,cp,AJx,bL,List.replicate,AY,V.clean,Dp,AP,V.norm,V.weak,parts,part,H6,BN]
theorem AOn (f g:Fl) (a b:List UInt8):flat [(f,a),(g,b)]=a++b:=by simp[flat]
theorem AIW {s:List UInt8} (hs:s.length<2147000000):Cl 118 [.str s] []=some (Au (sha (0::s)),[]):=by
 rw[AHi,AAl,AAm,AIL]
 refine(AB (AFT 0 (by omega)) _).trans<|(AJ1 (by omega) _).trans<|(AB (AOm _ _) _).trans ?_
 obtain⟨f',L',e1,e2,e3⟩:=MZ ([]++[Au (List.replicate 32 0)]) .own [(.sh,[UInt8.ofNat 0]),(.sh,s)]
 have er:AL ([]++[Au (List.replicate 32 0)]) [.lst 68 .own (parts [(.sh,[UInt8.ofNat 0]),(.sh,s)])]=[.lst 68 f' (parts L')]:=by simp only[AL,e1]
 rw[er]
 rw[AOn]at e2
 refine(AB (ABM L' (by rw[e3];simp) f' (by rw[e2];simp;omega) (by rw[e2];simp)) _).trans ?_
 refine(AB (Ce (P:=P) (h:=[]++[Au (List.replicate 32 0)]) (id:=0) rfl (ABK _) (ABL _ _)) _).trans ?_
 refine(AB (BR (h:=[Au (sha (flat L'))]) (id:=0) (v:=Au (sha (flat L'))) (Cm rfl)) _).trans ?_
 rw[U0,e2];rfl
end
section
open Go AM
theorem AL8 (a b c:List UInt8) (id:Nat) (h:List V):Ew P 182 3 [(0,bL .own a),(1,bL .own b),(2,.win id [] 0 32 5)]=some (.lst 68 .lent [bL .sh a,bL .sh b,.win id [] 0 32 5]):=by
 simp[Ew,PV,Cb,tyB,cp,AJx,bL,List.replicate,AY,V.clean,Dp,AP,V.norm,V.weak,H6,BN]
theorem ARC {id:Nat}:Jm P 55 (.ref id [] 55) none none none=some (.win id [] 0 32 5):=by
 simp[Jm,AHv,Bv]
theorem U8 {h:List V} {id:Nat} {c:List UInt8} (hh:h[id]?=some (Au c)) (hc:c.length=32):V.reify h (.win id [] 0 32 5)=bL .lent c:=by
 have:Ah h (.win id [] 0 32 5)=some (bytesOf c):=by
  simp[Ah,rd,hh,V.at,V.items,Au]
  rw[List.take_of_length_le (by rw[Ap];omega)]
 simp only[V.reify,this,CG,FX,if_true,bL]
def AFk (n:Nat) (t:List UInt8):List UInt8:=sha ([3]++Aq n++t)
theorem AIX {n:Nat} {t:List UInt8} (hn:n<1000000000) (ht:t.length=32):Cl 94 [iv n,Au t] []=some (Au (AFk n t),[]):=by
 have c1:(BN P 55 (Au t)&&V.under (List.length ([]:List V)) (Au t))=true:=by rw[ABK,ABL];rfl
 have nb:=Af 10 n
 rw[ALT,AE2,if_pos c1,AIL,AE3]
 refine(AB (Gp _) _).trans ?_
 rw[AE4]
 refine(ABS (by omega) (by omega) _).trans ?_
 have e1:AP [Bh (([]++[Au t])++[Au (List.replicate 32 0)]:List V).length,V.int .u64 ((n:Int).toNat:Int)]=[Bh 2,V.int .u64 (n:Int)]:=rfl
 rw[e1]
 refine(AB (Df (id:=2) (h:=(([]++[Au t])++[Au (List.replicate 32 0)])++[BD .nil []]) rfl (Or.inr rfl) (by omega) (by simp)) _).trans ?_
 rw[AE5]
 have eh:((([]++[Au t])++[Au (List.replicate 32 0)])++[BD .nil []]:List V).set 2 (BD .own ([]++Aq n))=[Au t,Au (List.replicate 32 0),BD .own (Aq n)]:=rfl
 rw[eh]
 refine(AB (AFT 3 (by omega)) _).trans ?_
 refine(AB (FY (id:=2) (h:=[Au t,Au (List.replicate 32 0),BD .own (Aq n)]) rfl) _).trans ?_
 refine(AJ1 (by rw[Aq];omega) _).trans<|(AB ARC _).trans<|(AB (AL8 [UInt8.ofNat 3] (Aq n) [] 0 []) _).trans ?_
 have er:AL [Au t,Au (List.replicate 32 0),BD .own (Aq n)] [.lst 68 .lent [bL .sh [UInt8.ofNat 3],bL .sh (Aq n),.win 0 [] 0 32 5]]=[.lst 68 .lent (parts [(.sh,[UInt8.ofNat 3]),(.sh,Aq n),(.lent,t)])]:=by
  have w:=U8 (h:=[Au t,Au (List.replicate 32 0),BD .own (Aq n)]) (id:=0) (c:=t) rfl ht
  show[V.lst 68 .lent [V.reify _ (bL .sh [UInt8.ofNat 3]),V.reify _ (bL .sh (Aq n)),V.reify [Au t,Au (List.replicate 32 0),BD .own (Aq n)] (.win 0 [] 0 32 5)]]=_
  rw[w];rfl
 rw[er]
 have ef:flat [(.sh,[UInt8.ofNat 3]),(.sh,Aq n),(.lent,t)]=[3]++Aq n++t:=by simp[flat]
 refine(AB (ABM _ (by simp) .lent (by rw[ef];simp only[List.length_append,Aq];simp;omega) (by rw[ef];simp)) _).trans ?_
 rw[ef]
 refine(AB (Ce (P:=P) (h:=[Au t,Au (List.replicate 32 0),BD .own (Aq n)]) (id:=1) rfl (ABK _) (ABL _ _)) _).trans ?_
 refine(AB (BR (h:=[Au t,Au (sha ([3]++Aq n++t)),BD .own (Aq n)]) (id:=1) (v:=Au (sha ([3]++Aq n++t))) (Cm rfl)) _).trans ?_
 exact U0 _ _ _
end
section
open Go AM
@[go_sem] theorem Jy (l:List UInt8):(Au l).pl=true:=SL l
@[go_sem] theorem OH (l:List UInt8):BK 54 (Au l)=true:=Hu ..
theorem Py:V.agg 54 (List.replicate 32 (V.int .u8 0))=Au (List.replicate 32 0):=rfl
@[go_sem] theorem KT (l:List (List UInt8)):Gj (l.map V.str)=true:=Dk (fun _=>rfl) l
@[go_sem] theorem AOo (l:List (List UInt8)):(l.map V.str).all tyS=true:=all_map (fun _=>rfl) l
@[go_sem] theorem ARD (l:List UInt8):Gj (bytesOf l)=true:=SL l
def Pz (n:Nat):Nat→Nat→Nat
 |0,k=>k
 |f+1,k=>if 2*k<n then Pz n f (2*k)else k
def P5 (n:Nat):Nat:=Pz n 62 1
theorem XF (n:Nat):∀(f k:Nat),0<k→k<n→0<Pz n f k∧Pz n f k<n
 |0,k,h,h2=>⟨h,h2⟩
 |f+1,k,h,h2=>by
  rw[Pz];split
  ·exact XF n f (2*k) (by omega) (by omega)
  ·exact⟨h,h2⟩
theorem ARF {n k f:Nat} (h:n<k*2^(f+1)):n<2*k*2^f:=by
 rw[Nat.pow_succ]at h
 have e:k*(2^f*2)=2*k*2^f:=by rw[Nat.mul_comm 2 k,Nat.mul_assoc,Nat.mul_comm (2^f)]
 omega
theorem AIY (n:Nat) (hn:n<2^61):∀(f k:Nat),0<k→k≤n→n<k*2^f→Nl (iv n) (iv k)=some (iv (Pz n f k),[]):=by
 intro f
 induction f with
 |zero=>intro k h h2 h3;omega
 |succ f ih=>
  intro k h h2 h3
  rw[Yi,Pz]
  have h2':(2:Int)*(k:Int)=((2*k:Nat):Int):=by omega
  by_cases hk:2*k<n
  ·rw[if_pos hk]
   refine(AB (AOV (by omega) (by omega)) _).trans<|(Jr (by omega) _).trans ?_
   rw[BP]
   refine(AB (AOW (by omega) (by omega)) _).trans ?_
   rw[show(k:Int)*2=((2*k:Nat):Int)by omega]
   exact ih (2*k) (by omega) (by omega) (ARF h3)
  ·rw[if_neg hk]
   refine(AB (AOV (by omega) (by omega)) _).trans<|(Js (by omega) _).trans ?_
   rfl
theorem AIZ {n:Nat} (h2:2≤n) (hn:n<2^61):Cl 119 [iv n] []=some (iv (P5 n),[]):=by
 rw[AHj]
 refine(Js (by omega) _).trans ?_
 rw[BQ]
 exact AIY n hn 62 1 (by omega) (by omega) (by omega)
def AJ8 (a b:List UInt8):List UInt8:=sha ([1]++a++b)
theorem AIa {a b:List UInt8} (ha:a.length=32) (hb:b.length=32):Cl 120 [Au a,Au b] []=some (Au (AJ8 a b),[]):=by
 have er:V.reify [Au a,Au b,Au (List.replicate 32 0)] (.lst 68 .lent [bL .sh [1],.win 0 [] 0 32 5,.win 1 [] 0 32 5])= .lst 68 .lent (parts [(.sh,[1]),(.lent,a),(.lent,b)]):=by
  have w:=U8 (h:=[Au a,Au b,Au (List.replicate 32 0)]) (id:=0) (c:=a) rfl ha
  have w':=U8 (h:=[Au a,Au b,Au (List.replicate 32 0)]) (id:=1) (c:=b) rfl hb
  show V.lst 68 .lent [V.reify _ (bL .sh [1]),V.reify [Au a,Au b,Au (List.replicate 32 0)] (.win 0 [] 0 32 5),V.reify [Au a,Au b,Au (List.replicate 32 0)] (.win 1 [] 0 32 5)]=_
  rw[w,w'];rfl
 have ef:flat [(.sh,[1]),(.lent,a),(.lent,b)]=[1]++a++b:=by simp[flat]
 rw[AHk,Py]
 simp(disch:=first|assumption|omega|(with_reducible rfl)|(simp only[go_sem];done)|(simp only[go_sem];omega)|fail) only[↓reduceIte,↓AA,Nat.reduceAdd,go_sem]
 refine(AB (show LX 68 true (some [.lst 5 .sh [.int .u8 1],(V.win 0 [] 0 32 5).weak,(V.win 1 [] 0 32 5).weak])=some (.lst 68 .lent [bL .sh [1],.win 0 [] 0 32 5,.win 1 [] 0 32 5])from rfl) _).trans ?_
 rw[er]
 refine(AB (ABM _ (by simp) .lent (by rw[ef];simp;omega) (by rw[ef];simp)) _).trans ?_
 rw[ef]
 simp(disch:=first|assumption|omega|(with_reducible rfl)|(simp only[go_sem];done)|(simp only[go_sem];omega)|fail) only[↓reduceIte,↓AA,Nat.reduceAdd,go_sem]
 rfl
def XG:Nat→List (List UInt8)→List UInt8
 |0,_=>sha [2]
 |f+1,l=>if l.length=0 then sha [2]else if l.length=1 then sha (0::l.getD 0 [])else AJ8 (XG f (l.take (P5 l.length))) (XG f (l.drop (P5 l.length)))
theorem P6:∀(f:Nat) (l:List (List UInt8)),(XG f l).length=32
 |0,_=>OB _
 |f+1,l=>by rw[XG];split;·exact OB _
            split<;>exact OB _
def Short (l:List (List UInt8)):Prop:=∀s∈l,s.length<2147000000
theorem Short.take {l:List (List UInt8)} (h:Short l) (n:Nat):Short (l.take n):=fun s hs=>h s (List.mem_of_mem_take hs)
theorem Short.drop {l:List (List UInt8)} (h:Short l) (n:Nat):Short (l.drop n):=fun s hs=>h s (List.mem_of_mem_drop hs)
theorem of0 {x:Nat} (hx:x<256) {g:Fl}:Cl 117 [.lst 68 g [.lst 5 .sh [.int .u8 (x:Int)]]] []=some (Au (sha [UInt8.ofNat x]),[]):=by
 have e:[V.lst 5 .sh [.int .u8 (x:Int)]]=parts [(.sh,[UInt8.ofNat x])]:=by
  simp only[parts,part,List.map_cons,List.map_nil,bL,bytesOf]
  rw[UInt8.toNat_ofNat',Nat.mod_eq_of_lt (by omega)]
 rw[e,ABM _ (by simp) g (by simp[flat]) (by simp[flat])]
 simp[flat]
theorem AFl {n:Nat} (h:2≤n):0<P5 n∧P5 n<n:=XF n 62 1 (by omega) (by omega)
theorem AL9:∀(f:Nat) (l:List (List UInt8)) (g:Fl),l.length≤f→f<2000000000→Short l→Cl 95 [.lst 9 g (l.map V.str)] []=some (Au (XG f l),[]):=by
 intro f
 induction f with
 |zero=>
  intro l g hl _ _
  have:l=[]:=List.eq_nil_of_length_eq_zero (by omega)
  subst this
  rw[AE6,Py,XG]
  simp(disch:=first|assumption|omega|(with_reducible rfl)|(simp only[go_sem];done)|(simp only[go_sem];omega)|fail) only[↓reduceIte,↓AA,Nat.reduceAdd,go_sem,List.map_nil]
  refine(AB (of0 (x:=2) (by omega)) _).trans ?_
  simp(disch:=first|assumption|omega|(with_reducible rfl)|(simp only[go_sem];done)|(simp only[go_sem];omega)|fail) only[↓reduceIte,↓AA,Nat.reduceAdd,go_sem]
  rfl
 |succ f ih=>
  intro l g hl hf hs
  rw[AE6,Py,XG]
  by_cases h0:l.length=0
  ·simp(disch:=first|assumption|omega|(with_reducible rfl)|(simp only[go_sem];done)|(simp only[go_sem];omega)|fail) only[↓reduceIte,↓AA,Nat.reduceAdd,go_sem,h0]
   refine(AB (of0 (x:=2) (by omega)) _).trans ?_
   simp(disch:=first|assumption|omega|(with_reducible rfl)|(simp only[go_sem];done)|(simp only[go_sem];omega)|fail) only[↓reduceIte,↓AA,Nat.reduceAdd,go_sem]
   rfl
  by_cases h1:l.length=1
  ·have hg:l[0]?=some (l.getD 0 []):=by rw[List.getD_eq_getElem?_getD,List.getElem?_eq_getElem (by omega)];rfl
   have hm:(l.getD 0 []).length<2147000000:=hs _ (List.mem_of_getElem? hg)
   simp(disch:=first|assumption|omega|(with_reducible rfl)|(simp only[go_sem];done)|(simp only[go_sem];omega)|fail) only[↓reduceIte,↓AA,Nat.reduceAdd,go_sem,h0,h1,List.getElem?_map,hg,AIW hm]
   rfl
  have hh:=AFl (n:=l.length) (by omega)
  have hx:∀g,Cl 95 [.lst 9 g ((l.take (P5 l.length)).map V.str)] []=_:=fun g=>ih _ g (by simp;omega) (by omega) (hs.take _)
  have hy:∀g,Cl 95 [.lst 9 g ((l.drop (P5 l.length)).map V.str)] []=_:=fun g=>ih _ g (by simp;omega) (by omega) (hs.drop _)
  simp(disch:=first|assumption|omega|(with_reducible rfl)|(simp only[go_sem];done)|(simp only[go_sem];omega)|fail) only[↓reduceIte,↓AA,Nat.reduceAdd,go_sem,h0,h1,AIZ (n:=l.length) (by omega) (by omega),←List.map_take,←List.map_drop,hx,hy,AIa (P6 _ _) (P6 _ _)]
def AFm (l:List (List UInt8)):List UInt8:=AFk l.length (XG l.length l)
theorem Si (n:Nat) (t:List UInt8):(AFk n t).length=32:=OB _
theorem AIb {g:Fl} {l:List (List UInt8)} (hl:l.length<1000000000) (hs:Short l):Cl 66 [.lst 9 g (l.map V.str)] []=some (Au (AFm l),[]):=by
 have h:=fun g=>AL9 l.length l g (Nat.le_refl _) (by omega) hs
 rw[AK8,Py]
 simp(disch:=first|assumption|omega|(with_reducible rfl)|(simp only[go_sem];done)|(simp only[go_sem];omega)|fail) only[↓reduceIte,↓AA,Nat.reduceAdd,go_sem,h,AIX (n:=l.length) hl (P6 _ _)]
 rfl
end
section
open Go AM
theorem AOp {h:List V} {y:V} {ys:List V} {ty:V→Bool} {xs:List V} (hy:Ah h y=some ys) (hc:AY ys=true) (ht:ys.all ty=true) (hl:xs.length+ys.length≤2147483648) {e:TypeId} {hs:Bool}:
 G6 e ty hs h (.lst e .own xs) y=some (.lst e .own (xs++nlB hs ys)):=by simp[G6,hy,hc,ht,Dh,hl]
def Jb:List UInt8:=List.replicate 32 0
theorem AIc:V.agg 54 (List.replicate 32 (V.int .u8 0))=Au Jb:=rfl
theorem U9:∀a b:List UInt8,a.length=b.length→LW (bytesOf a) (bytesOf b)=some (decide (a=b))
 |[],[],_=>rfl
 |x::a,y::b,h=>by
  have e:∀(z:UInt8) (l:List UInt8),bytesOf (z::l)= .int .u8 (z.toNat:Int)::bytesOf l:=fun _ _=>rfl
  rw[e,e]
  simp only[LW,Jl,if_true,Option.bind_some]
  by_cases hxy:x=y
  ·subst hxy
   simp[U9 a b (by simpa using h)]
  ·have:¬(x.toNat:Int)=(y.toNat:Int):=fun h=>hxy (UInt8.toNat_inj.1 (by omega))
   simp[this,hxy]
 |[],_::_,h=>by simp at h
 |_::_,[],h=>by simp at h
@[go_sem] theorem eqA {a b:List UInt8} (ha:a.length=32) (hb:b.length=32):NU (BK 54) .eql (Au a) (Au b)=some (.bool (decide (a=b))):=by
  have h:Jl (Au a) (Au b)=some (decide (a=b)):=by simp only[Au,Jl,if_true,U9 a b (by omega)]
  simp only[NU,OH,Bool.and_self,if_true,h,Option.map_some]
@[go_sem] theorem neA {a b:List UInt8} (ha:a.length=32) (hb:b.length=32):NU (BK 54) .neq (Au a) (Au b)=some (.bool (!decide (a=b))):=by
  have h:Jl (Au a) (Au b)=some (decide (a=b)):=by simp only[Au,Jl,if_true,U9 a b (by omega)]
  simp only[NU,OH,Bool.and_self,if_true,h,Option.map_some]
@[go_sem] theorem AOq (l:List (List UInt8)):Gj (l.map Au)=true:=Dk Jy l
@[go_sem] theorem AOr (l:List (List UInt8)):(l.map Au).all (BK 54)=true:=all_map OH l
theorem Y0 {h:List V} {id:Nat} {l x:List UInt8} (hh:h[id]?=some (BD .own l)) (hx:x.length=32) (hl:l.length≤2000000000):Cl 47 [Bh id,Au x] h=some (.tup [],h.set id (BD .own (l++x))):=by
 have hid:=HY hh
 have h1:(h++[Au x])[id]?=some (BD .own l):=JB _ hh
 have ht:=fun(K:V×List V→Rv)=>OD (h:=h++[Au x]) (id:=id) (f:= .own) (l:=l) h1 K
 rw[AKx,Bh]
 simp(disch:=first|assumption|omega|(with_reducible rfl)|(simp only[go_sem];done)|(simp only[go_sem];omega)|fail) only[↓reduceIte,↓AA,Nat.reduceAdd,go_sem]
 refine(ht _).trans ?_
 have hs:∀v w:V,(h++[Au x]).set id v=h.set id v++[Au x]:=fun v w=>Nz _ _ hid
 have hc:Ah ((h++[Au x]).set id (BD .sh l)) (.win h.length [] 0 32 5)=some (bytesOf x):=by
  rw[hs _ (V.bool true)]
  have:(h.set id (BD .sh l)++[Au x])[h.length]?=some (Au x):=by
   have:=KL (h.set id (BD .sh l)) (Au x)
   rwa [List.length_set]at this
  simp only[Ah,rd]
  rw[this]
  simp[V.at,V.items,Au]
  rw[List.take_of_length_le (by rw[Ap];omega)]
 have ap:G6 5 (NZ .u8) false ((h++[Au x]).set id (BD .sh l)) (bL .own l) (.win h.length [] 0 32 5)=some (bL .own (l++x)):=by
  rw[bL,AOp hc (CG x) (by simp[bytesOf,NZ]) (by rw[Ap,Ap];omega)]
  rw[AJ3,←GK];rfl
 refine(AB ap _).trans ?_
 have hb:((h++[Au x]).set id (BD .sh l))[id]?=some (BD .sh l):=JC _ h1
 refine(AB (AL1 (i:=0) hb (by simp) rfl rfl 68) _).trans ?_
 rw[List.set_set,hs _ (.bool true)]
 show some (V.tup [],List.take h.length (h.set id _++[Au x]))=_
 rw[take_set];rfl
theorem XH (a:V):Cl 45 [] [a]=some (Bh 1,[a,BD .nil []]):=Gp [a]
theorem IQ {a:V} {f:Fl} {l:List UInt8} {x:Int} (hf:OK f) (h0:0≤x) (h1:x<18446744073709551616) (hl:l.length≤2000000000):Cl 46 [Bh 1,.int .u64 x] [a,BD f l]=some (.tup [],[a,BD .own (l++Aq x.toNat)]):=by
 have:=Df (h:=[a,BD f l]) (id:=1) (n:=x.toNat) rfl hf (by omega) (by omega)
 rw[show((x.toNat:Nat):Int)=x by omega]at this
 exact this
theorem Y1 {a b:V} {l x:List UInt8} (hx:x.length=32) (hl:l.length≤2000000000):Cl 47 [Bh 1,Au x] [a,BD .own l,b]=some (.tup [],[a,BD .own (l++x),b]):=Y0 (h:=[a,BD .own l,b]) (id:=1) rfl hx hl
theorem Sj {a:V} {f:Fl} {l:List UInt8}:Cl 50 [Bh 1] [a,BD f l]=some (.str l,[a,BD f l]):=FY (h:=[a,BD f l]) (id:=1) rfl
@[go_sem] theorem ACP (n:Nat):V.norm (Bh n)=Bh n:=(rfl)
@[go_sem] theorem AMA {n m:Nat} (h:n<m):V.under m (Bh n)=true:=SN h ..
theorem IU:OK .own:=Or.inl rfl
theorem AFn:OK .nil:=Or.inr rfl
def Ad (s:List UInt8) (e:Nat):List UInt8×List UInt8×Nat:=
 if e≠0 then(Jb,s,e)else if s.length<32 then(Jb,s,20)else(s.take 32,s.drop 32,0)
theorem ARH {h:List V} {s w:List UInt8} {a:V} (hw:w.length=32) (hs:32≤s.length):cpy P 68 (h++[a,Au w]) (.win (h.length+1) [] 0 32 5) (.str s)=some (.int .i64 32,h++[a,Au (s.take 32)]):=by
 have hg:(h++[a,Au w])[h.length+1]?=some (Au w):=by simp
 have hset:∀v,(h++[a,Au w]).set (h.length+1) v=h++[a,v]:=by intro v;simp
 have e:EL P 68=5:=by simp[EL,H6]
 have hm:min (bytesOf s).length 32=32:=by rw[Ap];omega
 have hrd:rd (h++[a,Au w]) (h.length+1) []=some (Au w):=Cm hg
 have hb:(bytesOf s)=s.map fun b=>V.int .u8 b.toNat:=rfl
 simp only[cpy,e,Ah]
 rw[←hb,Option.bind_some,hm,hrd]
 simp only[Option.bind_some,Au,V.items,CG,Ez,Bool.and_self,if_true,Dp,Yj,Nat.beq_refl,Bool.true_eq_false,Bool.false_eq_true,if_false,List.take_zero,List.nil_append,Nat.zero_add,bytesOf_take]
 rw[bytesOf_drop,List.drop_of_length_le (by omega)]
 simp only[wr]
 rw[show(V.agg 54 (bytesOf w))=Au w from rfl,hg]
 simp only[Option.bind_some,V.upd,Option.map_some,hset]
 simp[bytesOf,Au]
theorem AFo {h:List V} {id:Nat} {s:List UInt8} (hh:h[id]?=some (BG s 0)) (a:V):
 Reads (.clo 110 [.ref (h.length+1) [] 55]) (h++[a,Au Jb]) s (if s.length<32 then 0 else 32) (if s.length<32 then 20 else 0) (h++[a,Au (Ad s 0).1]):=by
 intro k
 rw[Gn k (by kernel_rfl) (by kernel_rfl)]
 have e1:AP ([V.str s]++[V.ref (h.length+1) [] 55])=[V.str s,V.ref (h.length+1) [] 55]:=rfl
 have tk:∀v:V,(h++[a,v]).take (h++[a,Au Jb]).length=h++[a,v]:=by
  intro v
  rw[show(h++[a,Au Jb]).length=(h++[a,v]).length by simp,take_len]
 rw[e1,AHc]
 by_cases hs:s.length<32
 ·have e:(Ad s 0).1=Jb:=by simp[Ad,hs]
  have t:=tk (Au Jb)
  simp only[List.length_append,List.length_cons,List.length_nil]at t
  rw[if_pos hs,if_pos hs,e]
  simp(disch:=first|assumption|omega|(with_reducible rfl)|(simp only[go_sem];done)|(simp only[go_sem];omega)|fail) only[↓reduceIte,↓AA,Nat.reduceAdd,go_sem,t]
  rfl
 ·have e:(Ad s 0).1=s.take 32:=by simp[Ad,hs]
  have hc:=ARH (h:=h) (a:=a) (w:=Jb) rfl (show 32≤s.length by omega)
  have t:=tk (Au (s.take 32))
  simp only[List.length_append,List.length_cons,List.length_nil]at t
  rw[if_neg hs,if_neg hs,e]
  simp(disch:=first|assumption|omega|(with_reducible rfl)|(simp only[go_sem];done)|(simp only[go_sem];omega)|fail) only[↓reduceIte,↓AA,Nat.reduceAdd,go_sem,hc,t]
  rfl
theorem AId {h:List V} {id:Nat} {s:List UInt8} {e:Nat} (hh:h[id]?=some (BG s e)):
 Cl 84 [CQ id] h=some (Au (Ad s e).1,h.set id (BG (Ad s e).2.1 (Ad s e).2.2)):=by
 have hid:=HY hh
 rw[ALI,AIc]
 have hh1:(h++[Au Jb,Au Jb])[id]?=some (BG s e):=JB _ hh
 have cap:List.all [V.ref (h.length+1) [] 55] V.capOk=true:=rfl
 have e0:h++[Au Jb]++[Au Jb]=h++[Au Jb,Au Jb]:=by simp
 have e00:(h++[Au Jb]).length=h.length+1:=by simp
 have e1:AP [CQ id,V.clo 110 [V.ref (h.length+1) [] 55]]=[CQ id,V.clo 110 [V.ref (h.length+1) [] 55]]:=rfl
 rw[e0,e00,if_pos cap,Option.bind_some,e1]
 have fin:∀(x:List UInt8) (v:V),(Aa (h.set id v++[Au Jb,Au x]) 55 (.ref (h.length+1) [] 55)).bind (fun t7=>(Cc (BK 54) 55 (h.set id v++[Au Jb,Au x]) (.ref h.length [] 55) t7).bind fun h4=>(Aa h4 55 (.ref h.length [] 55)).bind fun c=>AV h.length h4 c)=some (Au x,h.set id v):=by
  intro x v
  have g1:(h.set id v++[Au Jb,Au x])[h.length+1]?=some (Au x):=by
   rw[List.getElem?_append_right (by simp)];simp
  have g2:(h.set id v++[Au Jb,Au x]).set h.length (Au x)=h.set id v++[Au x,Au x]:=by
   rw[List.set_append_right _ _ (by simp)];simp
  have g3:(h.set id v++[Au x,Au x])[h.length]?=some (Au x):=by
   rw[List.getElem?_append_right (by simp)];simp
  have g4:(h.set id v++[Au x,Au x]).take h.length=h.set id v:=take_set h _ id v
  simp(disch:=first|assumption|omega|(with_reducible rfl)|(simp only[go_sem];done)|(simp only[go_sem];omega)|fail) only[↓reduceIte,↓AA,Nat.reduceAdd,go_sem,g1]
  refine(AB (AL0 (by simp) (OH x) (by simp only[go_sem]) _) _).trans ?_
  rw[g2]
  simp(disch:=first|assumption|omega|(with_reducible rfl)|(simp only[go_sem];done)|(simp only[go_sem];omega)|fail) only[↓reduceIte,↓AA,Nat.reduceAdd,go_sem,g3,g4]
 by_cases he:e=0
 ·subst he
  have hr:=Ut hh1 (AFo hh (Au Jb)) (JB _ hh) (by split<;>omega)
  refine(AB hr _).trans ?_
  have e4:∀v x,((h++[Au Jb,Au x]).set id v).take (h++[Au Jb,Au Jb]).length=h.set id v++[Au Jb,Au x]:=by
   intro v x
   rw[Nz _ _ hid,show(h++[Au Jb,Au Jb]).length=(h.set id v++[Au Jb,Au x]).length by simp,take_len]
  rw[e4]
  refine(fin _ _).trans ?_
  by_cases hs:s.length<32
  ·simp[Ad,hs]
  ·simp[Ad,hs]
 ·refine(AB (PY hh1 he) _).trans ?_
  have:=fin Jb (BG s e)
  rw[KN hh]at this
  refine this.trans ?_
  simp only[Ad,he,ne_eq,not_false_eq_true,if_true]
  rw[KN hh]
@[go_sem] theorem AOs (n:Nat):V.norm (CQ n)=CQ n:=(rfl)
@[go_sem] theorem ACQ {n m:Nat} (h:n<m):V.under m (CQ n)=true:=SN h ..
@[go_sem] theorem AFp (s:List UInt8) (e:Nat):(BG s e).pl=true:=(rfl)
theorem Y2 (s:List UInt8) (e:Nat):(Ad s e).1.length=32∧(Ad s e).2.1.length≤s.length:=by
 simp only[Ad]
 split
 ·exact⟨rfl,Nat.le_refl _⟩
 ·split
  ·exact⟨rfl,Nat.le_refl _⟩
  ·simp;omega
section
variable {a b c:V} {s:List UInt8} {e:Nat}
end
@[go_sem] theorem ASU {s:List UInt8} (h:1≤s.length) (k:IntKind):slT (.str s) (some (.int k 1)) none=some (.str (s.drop 1)):=AL2 h k
end
section
open Go AM
def VA:List (List UInt8):=[[109,97,120],[108,97,98,101,108],[115,115,115,112],[98,102,115],[100,101,103,114,101,101],[114,97,110,107],[119,97,108,107,115]]
def Jz (t:List UInt8):Bool:=VA.any fun s=>decide (t=s)
theorem AIe (t:List UInt8) {ls:List (List UInt8)} (hl:ls.length<1000000) (f:Fl):∀(m i:Nat),i+m=ls.length→
 Nb (.lst 9 f (ls.map .str)) (.str t) (.int .i64 (ls.length:Int)) (.int .i64 (i:Int))=some (.int .i64 (Hf (fun s=>decide (t=s)) i (ls.drop i)),[]):=by
 intro m
 induction m with
 |zero=>
  intro i hi
  rw[List.drop_eq_nil_of_le (by omega),Ol]
  simp(disch:=first|assumption|omega|(with_reducible rfl)|(simp only[go_sem];done)|(simp only[go_sem];omega)|fail) only[↓reduceIte,↓AA,Nat.reduceAdd,go_sem,Hf]
 |succ m ih=>
  intro i hi
  have h:i<ls.length:=by omega
  have:=ih (i+1) (by omega)
  have ha:(ls.map V.str)[i]?=some (.str ls[i]):=by simp[h]
  rw[List.drop_eq_getElem_cons h,Hf,Ol]
  by_cases ho:t=ls[i]
  ·rw[if_pos (decide_eq_true ho)]
   simp(disch:=first|assumption|omega|(with_reducible rfl)|(simp only[go_sem];done)|(simp only[go_sem];omega)|fail) only[↓reduceIte,↓AA,Nat.reduceAdd,go_sem,ha]
  ·rw[if_neg (by simp[ho]),←this]
   simp(disch:=first|assumption|omega|(with_reducible rfl)|(simp only[go_sem];done)|(simp only[go_sem];omega)|fail) only[↓reduceIte,↓AA,Nat.reduceAdd,go_sem,ha]
theorem XI (t:List UInt8):Cl 62 [.str t] []=some (.bool (Jz t),[]):=by
 have h:=AIe t (ls:=VA) (by decide) .sh VA.length 0 (by omega)
 simp only[c0,List.drop_zero]at h
 have h2:Cl 92 [.lst 9 .sh (VA.map .str),.str t] []=some (.bool (Jz t),[]):=by
  have ix:Cl 116 [.lst 9 .sh (VA.map .str),.str t] []=some (.int .i64 (Hf (fun s=>decide (t=s)) 0 VA),[]):=by
   rw[←h,AHg]
   simp(disch:=first|assumption|omega|(with_reducible rfl)|(simp only[go_sem];done)|(simp only[go_sem];omega)|fail) only[↓reduceIte,↓AA,Nat.reduceAdd,go_sem]
  rw[Jz,←U5 _ VA 0,ALR]
  simp(disch:=first|assumption|omega|(with_reducible rfl)|(simp only[go_sem];done)|(simp only[go_sem];omega)|fail) only[↓reduceIte,↓AA,Nat.reduceAdd,go_sem,ix]
 simp only[VA,List.map_cons,List.map_nil]at h2
 rw[AK4]
 simp(disch:=first|assumption|omega|(with_reducible rfl)|(simp only[go_sem];done)|(simp only[go_sem];omega)|fail) only[↓reduceIte,↓AA,Nat.reduceAdd,go_sem,h2]
theorem ACR (t:List UInt8):Cl 69 [.str t] []=some (.bool (Jz t),[]):=by
 rw[AK9]
 repeat' first|rfl|refine Wy (fun _=> ?_) (fun _=> ?_)|refine W9 (fun _=> ?_) (fun _=> ?_)|simp(disch:=first|assumption|omega|(with_reducible rfl)|(simp only[go_sem];done)|(simp only[go_sem];omega)|fail) only[↓reduceIte,↓AA,Nat.reduceAdd,go_sem]
 all_goals simp_all [Jz,VA]
structure Job where
 tag:List UInt8
 src:Int
 steps:Int
abbrev vJ (j:Job):V:= .agg 25 [.str j.tag,.int .i64 j.src,.int .i64 j.steps]
def Mc (g:Grf) (j:Job):Bool:=decide (Jw g=0∧Jz j.tag=true∧0≤j.src∧j.src<g.n∧1≤j.steps∧j.steps≤64)
theorem ACS {g:Grf} (hl:g.es.length<1000000) (j:Job):Cl 32 [vG .sh g,vJ j] []=some (.int .i64 (if Mc g j=true then 0 else 70),[]):=by
 have hg:=ACO hl
 rw[AKn]
 repeat' first|rfl|refine Wy (fun _=> ?_) (fun _=> ?_)|refine W9 (fun _=> ?_) (fun _=> ?_)|simp(disch:=first|assumption|omega|(with_reducible rfl)|(simp only[go_sem];done)|(simp only[go_sem];omega)|fail) only[↓reduceIte,↓AA,Nat.reduceAdd,go_sem,hg,XI]
 all_goals (rw[Mc];simp_all)
 all_goals omega
def firstX (j:Job) (v:Int):Vtx:=
 if Jz j.tag=true then⟨v,if j.tag=[109,97,120]then(37*v+11).tmod 64 else if j.tag=[108,97,98,101,108]then v else if j.tag=[115,115,115,112]∨j.tag=[98,102,115]then(if v=j.src then 0 else -1)else if j.tag=[114,97,110,107]then 65536 else if j.tag=[119,97,108,107,115]then 1 else 0,true,false,0⟩else⟨0,0,false,false,0⟩
theorem AOt (a:Int):AO .rem (.int .i64 a) (.int .i64 64)=some (.int .i64 (a.tmod 64)):=WY _ _ _ (by omega)
theorem AFq (j:Job) {v:Int} (h1:0≤v) (h2:v<1000):Cl 34 [vJ j,.int .i64 v] []=some (Ja (firstX j v),[]):=by
 rw[AKp]
 repeat' first|rfl|refine Wy (fun _=> ?_) (fun _=> ?_)|refine W9 (fun _=> ?_) (fun _=> ?_)|simp(disch:=first|assumption|omega|(with_reducible rfl)|(simp only[go_sem];done)|(simp only[go_sem];omega)|fail) only[↓reduceIte,↓AA,Nat.reduceAdd,go_sem,XI,AOt]
 all_goals simp_all [firstX,Ja]
end
section
open Go AM
def mA (v:Nat):Nat:=v*2654435761%4294967296
def mB (a:Nat):Nat:=a ^^^ (a/32768)
def mC (b:Nat):Nat:=b*2246822519%4294967296
def mD (c:Nat):Nat:=c ^^^ (c/8192)
def mixN (v:Nat):Nat:=mD (mC (mB (mA v)))
theorem AOu (v:Nat):mA v<4294967296:=Nat.mod_lt _ (by omega)
theorem AOv (v:Nat):mC v<4294967296:=Nat.mod_lt _ (by omega)
theorem XJ {a:Nat} (h:a<4294967296) (k:Nat):a/k<4294967296:=Nat.lt_of_le_of_lt (Nat.div_le_self a k) h
theorem AJ9 (a c:Nat):AO .mul (.int .u32 (a:Int)) (.int .u32 (c:Int))=some (.int .u32 ((a*c%4294967296:Nat):Int)):=by
 rw[Rw,←Int.natCast_mul,G8]
theorem AKA {a:Nat} (h:a<4294967296) (k:Nat) (hk:k≤32):AO .shr (.int .u32 (a:Int)) (.int .u64 (k:Int))=some (.int .u32 ((a/2^k:Nat):Int)):=by
 have e:(min (k:Int).toNat IntKind.u32.bits)=k:=by simp only[IntKind.bits,Int.toNat_natCast];omega
 have h2:=Nat.div_le_self a (2^k)
 have e2:((2:Int)^k)=((2^k:Nat):Int):=by simp
 rw[Rx _ _ _ _ (by omega),e,e2,Int.fdiv_eq_ediv_of_nonneg _ (Int.natCast_nonneg _),←Int.natCast_ediv]
@[go_sem] theorem m1 (a:Nat):AO .mul (.int .u32 (a:Int)) (.int .u32 2654435761)=some (.int .u32 (mA a:Int)):=AJ9 a 2654435761
@[go_sem] theorem m2 (a:Nat):AO .mul (.int .u32 (a:Int)) (.int .u32 2246822519)=some (.int .u32 (mC a:Int)):=AJ9 a 2246822519
theorem s15 {a:Nat} (h:a<4294967296):AO .shr (.int .u32 (a:Int)) (.int .u64 15)=some (.int .u32 ((a/32768:Nat):Int)):=AKA h 15 (by omega)
theorem s13 {a:Nat} (h:a<4294967296):AO .shr (.int .u32 (a:Int)) (.int .u64 13)=some (.int .u32 ((a/8192:Nat):Int)):=AKA h 13 (by omega)
theorem AMB (v:Nat):Cl 93 [.int .u32 (v:Int)] []=some (.int .u32 (mixN v:Int),[]):=by
 have a1:=AOu v
 have b1:=AOv (mB (mA v))
 have x1:AO .xor (.int .u32 (mA v:Int)) (.int .u32 ((mA v/32768:Nat):Int))=some (.int .u32 (mB (mA v):Int)):=u32_xor a1 (XJ a1 _)
 have x2:AO .xor (.int .u32 (mC (mB (mA v)):Int)) (.int .u32 ((mC (mB (mA v))/8192:Nat):Int))=some (.int .u32 (mixN v:Int)):=u32_xor b1 (XJ b1 _)
 rw[ALS]
 simp(disch:=first|assumption|omega|(with_reducible rfl)|(simp only[go_sem];done)|(simp only[go_sem];omega)|fail) only[↓reduceIte,↓AA,Nat.reduceAdd,go_sem,s15 a1,x1,s13 b1,x2]
theorem AOw {a c:Nat} (h:a*c<18446744073709551616):AO .mul (.int .u64 (a:Int)) (.int .u64 (c:Int))=some (.int .u64 ((a*c:Nat):Int)):=by
 rw[Rw,←Int.natCast_mul,wrap_u64 (by omega) (by omega)]
theorem k1 {v:Nat} (h:v<4294967296) (K:V→Rv):((AO .mul (.int .u64 (v:Int)) (.int .u64 2654435761)).bind fun t=>(AO .rem t (.int .u64 4294967296)).bind K)=K (.int .u64 (mA v:Int)):=
 (AB (AOw (a:=v) (c:=2654435761) (by omega)) _).trans (AB (ALu (a:=v*2654435761) (b:=4294967296) (by omega) .u64) _)
theorem k2 {v:Nat} (h:v<4294967296) (K:V→Rv):((AO .mul (.int .u64 (v:Int)) (.int .u64 2246822519)).bind fun t=>(AO .rem t (.int .u64 4294967296)).bind K)=K (.int .u64 (mC v:Int)):=
 (AB (AOw (a:=v) (c:=2246822519) (by omega)) _).trans (AB (ALu (a:=v*2246822519) (b:=4294967296) (by omega) .u64) _)
def ownN (v n:Nat):Nat:=mixN v%n
theorem AFr {v n:Nat} (hv:v<1000) (h1:1≤n) (h2:n≤64):Cl 65 [.int .i64 (v:Int),.int .i64 (n:Int)] []=some (.int .i64 (ownN v n:Int),[]):=by
 have hm:=AMB v
 have cv1:OW .u32 (.int .i64 (v:Int))=some (.int .u32 (v:Int)):=by rw[OW,wrap_u32 (by omega) (by omega)]
 have cv2:OW .u32 (.int .i64 (n:Int))=some (.int .u32 (n:Int)):=by rw[OW,wrap_u32 (by omega) (by omega)]
 have r:=ALu (a:=mixN v) (b:=n) (by omega) .u32
 have hl:mixN v%n<n:=Nat.mod_lt _ (by omega)
 rw[ownN,AK7]
 simp(disch:=first|assumption|omega|(with_reducible rfl)|(simp only[go_sem];done)|(simp only[go_sem];omega)|fail) only[↓reduceIte,↓AA,Nat.reduceAdd,go_sem,cv1,cv2,hm,r]
def ofL (n N w:Nat):List Nat:=(List.range n).filter fun v=>decide (ownN v N=w)
theorem XK (n N w:Nat):ofL (n+1) N w=if ownN n N=w then ofL n N w++[n]else ofL n N w:=by
 simp only[ofL,List.range_succ,List.filter_append,List.filter_cons,List.filter_nil]
 by_cases h:ownN n N=w<;>simp[h]
theorem AFs {n N w v:Nat} (h:v∈ofL n N w):v<n:=by
 simp only[ofL,List.mem_filter,List.mem_range]at h;exact h.1
theorem OI (n N w:Nat):(ofL n N w).length≤n:=by
 have:=List.length_filter_le (fun v=>decide (ownN v N=w)) (List.range n)
 simpa [ofL]using this
attribute [irreducible] mixN ownN ofL
abbrev vNs (f:Fl) (l:List Nat):V:= .lst 3 f (l.map fun(v:Nat)=>V.int .i64 (v:Int))
@[go_sem] theorem AOx (l:List Nat):Gj (l.map fun(v:Nat)=>V.int .i64 (v:Int))=true:=Dk (fun _=>rfl) l
@[go_sem] theorem AOy (l:List Nat):(l.map fun(v:Nat)=>V.int .i64 (v:Int)).all (NZ .i64)=true:=all_map (fun _=>rfl) l
theorem AFt (f:Fl) (l:List Nat) (v:Nat):vNs f (l++[v])= .lst 3 f ((l.map fun(v:Nat)=>V.int .i64 (v:Int))++[.int .i64 (v:Int)]):=by simp[vNs]
theorem AMC {v N w:Nat} (hv:v<1000) (h1:1≤N) (h2:N≤64):Cl 64 [.int .i64 (v:Int),.ref 0 [] 3,.ref 1 [] 3] [.int .i64 (N:Int),.int .i64 (w:Int)]=some (.bool (decide (ownN v N=w)),[.int .i64 (N:Int),.int .i64 (w:Int)]):=by
 have ho:=AFr hv h1 h2
 have e:decide ((ownN v N:Int)=(w:Int))=decide (ownN v N=w):=decide_eq_decide.2 (by omega)
 rw[AK6]
 simp(disch:=first|assumption|omega|(with_reducible rfl)|(simp only[go_sem];done)|(simp only[go_sem];omega)|fail) only[↓reduceIte,↓AA,Nat.reduceAdd,go_sem,ho,e]
theorem ARI {v N w:Nat} (hv:v<1000) (h1:1≤N) (h2:N≤64) (k:V→List V→Rv):CB P Dn W (.clo 64 [.ref 0 [] 3,.ref 1 [] 3]) [.int .i64 (v:Int)] [.int .i64 (N:Int),.int .i64 (w:Int)] k=k (.bool (decide (ownN v N=w))) [.int .i64 (N:Int),.int .i64 (w:Int)]:=
 Lm k (by kernel_rfl) (by kernel_rfl) (AMC hv h1 h2)
theorem AMD {n N w:Nat} (hn:n≤64) (h1:1≤N) (h2:N≤64):∀(m i:Nat) (f:Fl),i+m=n→(f= .own∨f= .nil)→
 Oe (.clo 64 [.ref 0 [] 3,.ref 1 [] 3]) (vNs f (ofL i N w)) (.int .i64 (n:Int)) (.int .i64 (i:Int)) [.int .i64 (N:Int),.int .i64 (w:Int)]=some (.tup [vNs .sh (ofL n N w),.int .i64 0],[]):=by
 intro m
 induction m with
 |zero=>
  intro i f hi hf
  obtain rfl:i=n:=by omega
  rw[Rf]
  rcases hf with rfl|rfl
  ·simp(disch:=first|assumption|omega|(with_reducible rfl)|(simp only[go_sem];done)|(simp only[go_sem];omega)|fail) only[↓reduceIte,↓AA,Nat.reduceAdd,go_sem]
  ·simp(disch:=first|assumption|omega|(with_reducible rfl)|(simp only[go_sem];done)|(simp only[go_sem];omega)|fail) only[↓reduceIte,↓AA,Nat.reduceAdd,go_sem]
 |succ m ih=>
  intro i f hi hf
  have hl:=OI i N w
  have hv:=AFt .own (ofL i N w) i
  have h:=ARI (v:=i) (N:=N) (w:=w) (by omega) h1 h2
  rw[Rf]
  by_cases ho:ownN i N=w
  ·have:=ih (i+1) .own (by omega) (Or.inl rfl)
   rw[XK,if_pos ho]at this
   rcases hf with rfl|rfl
   ·simp(disch:=first|assumption|omega|(with_reducible rfl)|(simp only[go_sem];done)|(simp only[go_sem];omega)|fail) only[↓reduceIte,↓AA,Nat.reduceAdd,go_sem,h,decide_eq_true ho]
    rw[hv]at this;exact this
   ·simp(disch:=first|assumption|omega|(with_reducible rfl)|(simp only[go_sem];done)|(simp only[go_sem];omega)|fail) only[↓reduceIte,↓AA,Nat.reduceAdd,go_sem,h,decide_eq_true ho]
    rw[hv]at this;exact this
  ·have:=ih (i+1) f (by omega) hf
   rw[XK,if_neg ho]at this
   simp(disch:=first|assumption|omega|(with_reducible rfl)|(simp only[go_sem];done)|(simp only[go_sem];omega)|fail) only[↓reduceIte,↓AA,Nat.reduceAdd,go_sem,h,decide_eq_false ho]
   exact this
theorem AME {n N w:Nat} (h0:1≤n) (hn:n≤64) (h1:1≤N) (h2:N≤64) (hw:w<N):Cl 33 [.int .i64 (n:Int),.int .i64 (N:Int),.int .i64 (w:Int)] []=some (.tup [vNs .sh (ofL n N w),.int .i64 0],[]):=by
 have h:=AMD (w:=w) hn h1 h2 n 0 .nil (by omega) (Or.inr rfl)
 have r:Cl 63 [.int .i64 (n:Int),.int .i64 (N:Int)] []=some (.bool true,[]):=by
  rw[AK5]
  simp(disch:=first|assumption|omega|(with_reducible rfl)|(simp only[go_sem];done)|(simp only[go_sem];omega)|fail) only[↓reduceIte,↓AA,Nat.reduceAdd,go_sem]
  rw[decide_eq_true (by omega)]
 have z:vNs .nil (ofL 0 N w)= .lst 3 .nil []:=by simp[ofL]
 rw[z]at h
 rw[←h,AKo]
 simp(disch:=first|assumption|omega|(with_reducible rfl)|(simp only[go_sem];done)|(simp only[go_sem];omega)|fail) only[↓reduceIte,↓AA,Nat.reduceAdd,go_sem,r]
 rfl
end
section
open Go AM
abbrev kE (e:E0):Int×Int:=(e.fr,e.to)
theorem AFu (es:List E0) {i:Nat} (h:i<es.length):((es.take (i+1)).map kE).Nodup↔((es.take i).map kE).Nodup∧(es.take i).any (fun x=>decide (kE x=kE es[i]))=false:=by
 rw[List.take_add_one,List.getElem?_eq_getElem h,Option.toList_some,List.map_append,List.nodup_append]
 simp only[List.map_cons,List.map_nil,List.nodup_cons,List.not_mem_nil,not_false_eq_true,List.nodup_nil,and_self,true_and,List.mem_cons,or_false]
 refine and_congr_right fun _=> ?_
 rw[List.any_eq_false]
 constructor
 ·intro h x hx;simp only[decide_eq_true_eq];exact fun e=>h (kE x) (List.mem_map_of_mem hx) _ rfl e
 ·rintro h a ha b rfl e
  obtain⟨x,hx,rfl⟩:=List.mem_map.1 ha
  exact h x hx (decide_eq_true e)
theorem AOz {g:Grf} (hl:g.es.length<1000000) {i:Nat} (hi:i<g.es.length):∀(n k:Nat) (b:Bool),k+n=i→
 UY rG (.bool b) (.int .i64 (i:Int)) (.ref 1 [] 112) (.int .i64 (k:Int)) 1 [vG .sh g,Pv g.es[i]]=
  Oi rG (.bool (b||((g.es.take i).drop k).any (fun x=>decide (kE x=kE g.es[i])))) (.int .i64 ((i+1:Nat):Int)) [vG .sh g]:=by
 intro n
 induction n with
 |zero=>
  intro k b hk
  rw[List.drop_eq_nil_of_le (by simp;omega),List.any_nil,Bool.or_false,Rk]
  simp(disch:=first|assumption|omega|(with_reducible rfl)|(simp only[go_sem];done)|(simp only[go_sem];omega)|fail) only[↓reduceIte,↓AA,Nat.reduceAdd,go_sem]
 |succ n ih=>
  intro k b hk
  have hk2:k<g.es.length:=by omega
  have hx:=ABQ hk2
  have hlen:k<(g.es.take i).length:=by simp;omega
  have hd:(g.es.take i).drop k=g.es[k]::(g.es.take i).drop (k+1):=by
   rw[List.drop_eq_getElem_cons hlen,List.getElem_take]
  rw[hd,List.any_cons,Rk]
  cases b with
  |true=>
   have:=ih (k+1) true (by omega)
   rw[Bool.true_or]at this⊢
   rw[←this]
   simp(disch:=first|assumption|omega|(with_reducible rfl)|(simp only[go_sem];done)|(simp only[go_sem];omega)|fail) only[↓reduceIte,↓AA,Nat.reduceAdd,go_sem]
  |false=>
   rw[Bool.false_or]
   by_cases h1:g.es[k].fr=g.es[i].fr
   ·by_cases h2:g.es[k].to=g.es[i].to
    ·have:=ih (k+1) true (by omega)
     rw[Bool.true_or]at this
     rw[decide_eq_true (show kE g.es[k]=kE g.es[i]by rw[kE,h1,h2]),Bool.true_or,←this]
     generalize hek:g.es[k]=a at*
     generalize hei:g.es[i]=c at*
     simp only[Pv]at hx⊢
     simp(disch:=first|assumption|omega|(with_reducible rfl)|(simp only[go_sem];done)|(simp only[go_sem];omega)|fail) only[↓reduceIte,↓AA,Nat.reduceAdd,go_sem,hx,h1,h2,decide_true]
    ·have:=ih (k+1) false (by omega)
     rw[Bool.false_or]at this
     rw[decide_eq_false (show ¬kE g.es[k]=kE g.es[i]from fun e=>h2 (Prod.mk.inj e).2),Bool.false_or,←this]
     generalize hek:g.es[k]=a at*
     generalize hei:g.es[i]=c at*
     simp only[Pv]at hx⊢
     simp(disch:=first|assumption|omega|(with_reducible rfl)|(simp only[go_sem];done)|(simp only[go_sem];omega)|fail) only[↓reduceIte,↓AA,Nat.reduceAdd,go_sem,hx,h1,decide_eq_false h2]
   ·have:=ih (k+1) false (by omega)
    rw[Bool.false_or]at this
    rw[decide_eq_false (show ¬kE g.es[k]=kE g.es[i]from fun e=>h1 (Prod.mk.inj e).1),Bool.false_or,←this]
    generalize hek:g.es[k]=a at*
    generalize hei:g.es[i]=c at*
    simp only[Pv]at hx⊢
    simp(disch:=first|assumption|omega|(with_reducible rfl)|(simp only[go_sem];done)|(simp only[go_sem];omega)|fail) only[↓reduceIte,↓AA,Nat.reduceAdd,go_sem,hx]
def r5 (g:Grf) (i:Nat):Int:=if(g.es.drop i).any (F9 g.n)=true then 50 else if(g.es.map kE).Nodup then 0 else 51
theorem AO0 {g:Grf} (hl:g.es.length<1000000):∀(n i:Nat) (b:Bool),i+n=g.es.length→b= !decide ((g.es.take i).map kE).Nodup→
 Oi rG (.bool b) (.int .i64 (i:Int)) [vG .sh g]=some (.int .i64 (r5 g i),[]):=by
 intro n
 induction n with
 |zero=>
  intro i b hi hb
  rw[List.take_of_length_le (by omega)]at hb
  rw[r5,List.drop_eq_nil_of_le (by omega),List.any_nil,Rl]
  by_cases hn:(g.es.map kE).Nodup
  ·rw[decide_eq_true hn]at hb
   subst hb
   rw[if_pos hn]
   simp(disch:=first|assumption|omega|(with_reducible rfl)|(simp only[go_sem];done)|(simp only[go_sem];omega)|fail) only[↓reduceIte,↓AA,Nat.reduceAdd,go_sem]
   rfl
  ·rw[decide_eq_false hn]at hb
   subst hb
   rw[if_neg hn]
   simp(disch:=first|assumption|omega|(with_reducible rfl)|(simp only[go_sem];done)|(simp only[go_sem];omega)|fail) only[↓reduceIte,↓AA,Nat.reduceAdd,go_sem]
   rfl
 |succ n ih=>
  intro i b hi hb
  have h:i<g.es.length:=by omega
  have hx:=ABQ h
  have l2:=AOz hl h i 0 b (by omega)
  rw[List.drop_zero]at l2
  have hk:=AFu g.es h
  have ih':=ih (i+1) (b||(g.es.take i).any (fun x=>decide (kE x=kE g.es[i]))) (by omega) (by
   subst hb
   rw[Bool.eq_iff_iff]
   by_cases p:((g.es.take i).map kE).Nodup<;>cases q:(g.es.take i).any (fun x=>decide (kE x=kE g.es[i]))<;>simp_all)
  rw[ih']at l2
  have hbad:F9 g.n g.es[i]=true→r5 g i=50:=fun ho=>by rw[r5,List.drop_eq_getElem_cons h,List.any_cons,ho];rfl
  have hok:F9 g.n g.es[i]=false→r5 g i=r5 g (i+1):=fun ho=>by rw[r5,r5,List.drop_eq_getElem_cons h,List.any_cons,ho];rfl
  generalize r5 g i=r at*
  generalize r5 g (i+1)=r' at*
  generalize he:g.es[i]=e at*
  rw[Rl]
  simp only[Pv,c0]at hx l2
  repeat' first|rfl|refine Wy (fun _=> ?_) (fun _=> ?_)|refine W9 (fun _=> ?_) (fun _=> ?_)|simp(disch:=first|assumption|omega|(with_reducible rfl)|(simp only[go_sem];done)|(simp only[go_sem];omega)|fail) only[↓reduceIte,↓AA,Nat.reduceAdd,go_sem,hx,l2]
  all_goals simp only[F9]at hbad hok
  all_goals simp_all
  all_goals omega
theorem AIf {g:Grf} (hl:g.es.length<1000000):Cl 68 [vG .sh g] []=some (.int .i64 (Jw g),[]):=by
 have h:=AO0 hl g.es.length 0 false (by omega) (by simp)
 simp only[c0]at h
 have e:∀(a:1≤g.n) (b:g.n≤64) (c:g.es.length≤512),Jw g=r5 g 0:=by
  intro a b c
  rw[Jw,r5,List.drop_zero]
  by_cases ho:g.es.any (F9 g.n)=true
  ·rw[if_neg (fun h=>by rw[ho]at h;cases h.2.2.2),if_pos ho]
  ·rw[if_pos ⟨a,b,c,by simpa using ho⟩,if_neg ho]
 by_cases h1:g.n<1
 ·rw[Jw,if_neg (by omega),UZ]
  simp(disch:=first|assumption|omega|(with_reducible rfl)|(simp only[go_sem];done)|(simp only[go_sem];omega)|fail) only[↓reduceIte,↓AA,Nat.reduceAdd,go_sem]
 by_cases h2:64<g.n
 ·rw[Jw,if_neg (by omega),UZ]
  simp(disch:=first|assumption|omega|(with_reducible rfl)|(simp only[go_sem];done)|(simp only[go_sem];omega)|fail) only[↓reduceIte,↓AA,Nat.reduceAdd,go_sem]
 by_cases h3:512<g.es.length
 ·rw[Jw,if_neg (by omega),UZ]
  simp(disch:=first|assumption|omega|(with_reducible rfl)|(simp only[go_sem];done)|(simp only[go_sem];omega)|fail) only[↓reduceIte,↓AA,Nat.reduceAdd,go_sem]
 rw[e (by omega) (by omega) (by omega),UZ]
 simp(disch:=first|assumption|omega|(with_reducible rfl)|(simp only[go_sem];done)|(simp only[go_sem];omega)|fail) only[↓reduceIte,↓AA,Nat.reduceAdd,go_sem,h]
end
section
open Go AM
theorem Y3 {g:Grf} (hl:g.es.length<1000000) (j:Job):Cl 37 [vG .sh g,vJ j] []=some (.bool (Mc g j),[]):=by
 have hg:=AIf hl
 rw[AKs]
 repeat' first|rfl|refine Wy (fun _=> ?_) (fun _=> ?_)|refine W9 (fun _=> ?_) (fun _=> ?_)|simp(disch:=first|assumption|omega|(with_reducible rfl)|(simp only[go_sem];done)|(simp only[go_sem];omega)|fail) only[↓reduceIte,↓AA,Nat.reduceAdd,go_sem,hg,ACR]
 all_goals (rw[Mc];simp_all)
 all_goals omega
def EG (g:Grf) (j:Job) (w:Int):Bool:=Mc g j&&decide (1≤w∧w≤64)
theorem ACT {g:Grf} (hl:g.es.length<1000000) (j:Job) (w:Int):Cl 12 [vG .sh g,vJ j,.int .i64 w] []=some (.bool (EG g j w),[]):=by
 have hg:=Y3 hl j
 rw[EG,AKc]
 generalize Mc g j=b at*
 repeat' first|rfl|refine Wy (fun _=> ?_) (fun _=> ?_)|refine W9 (fun _=> ?_) (fun _=> ?_)|simp(disch:=first|assumption|omega|(with_reducible rfl)|(simp only[go_sem];done)|(simp only[go_sem];omega)|fail) only[↓reduceIte,↓AA,Nat.reduceAdd,go_sem,hg]
 all_goals simp_all
 all_goals omega
end
section
open Go AM
structure Msg where
 fr:Int
 to:Int
 val:Int
 deriving DecidableEq
def Ac (m:Msg):V:= .agg 107 [.int .i64 m.fr,.int .i64 m.to,.int .i64 m.val]
def D8 (n:Nat):Int:=((min n 64:Nat):Int)
def IV (s:List UInt8):Msg×Nat:=
 let a:=AU s 0
 let b:=AU a.2.1 a.2.2
 let c:=AU b.2.1 b.2.2
 (⟨D8 a.1,D8 b.1,zz c.1⟩,EM c.2.1 c.2.2)
theorem EY (s:List UInt8) (e:Nat):(AU s e).2.1.length≤s.length:=by
 simp only[AU]
 split
 ·exact Nat.le_refl _
 ·simp only[]
  split
  ·simp
  ·exact Nat.le_refl _
theorem AMF (n:Nat) (hn:n<18446744073709551616):Cl 130 [.int .u64 (n:Int)] []=some (.int .i64 (D8 n),[]):=by
 rw[AHm]
 have e:YP (.int .u64 (n:Int)) (.int .u64 64)=some (.int .u64 (D8 n)):=by
  simp only[YP,if_true,D8]
  congr 2
  split<;>omega
 simp only[AAn,AAo,e,Option.bind_some]
 rw[Ba FB,wrap_i64 (by simp only[D8];omega) (by simp only[D8];omega),Option.bind_some]
 rfl
theorem ABT {h:List V} (n:Nat) (hn:n<18446744073709551616) (k:V→List V→Option (V×List V)):CB P Dn W (.clo 130 []) [.int .u64 (n:Int)] h k=k (.int .i64 (D8 n)) h:=by
 rw[KO k (by kernel_rfl) (by kernel_rfl)]
 have e1:AL h ([V.int .u64 (n:Int)]++[])=[V.int .u64 (n:Int)]:=rfl
 rw[e1,AMF n hn];rfl
theorem IW (s:List UInt8) (e:Nat):(AU s e).1<18446744073709551616:=by
 simp only[AU]
 split
 ·simp
 ·exact OC s 0 0 (by omega) (by decide)
theorem AIg (a b c:Int):YO P 108 [(0,.int .i64 a),(1,.int .i64 b),(2,.int .i64 c)]=some (Ac ⟨a,b,c⟩):=by
 simp[YO,Ru,Yk,Cb,BN,K_3,K_2,BO,FB,WX,cp,AQJ,AQI,Ac]
theorem AFv (m:Msg):BN P 108 (Ac m)=true:=by simp[BN,Ru,Ac]
theorem Y4 (s:List UInt8) (hl:s.length<4611686018427387904):Cl 111 [.str s] []=some (.tup [Ac (IV s).1,.int .i64 ((IV s).2:Int)],[]):=by
 have l1:=EY s 0
 generalize ha:AU s 0=a at l1
 have l2:=EY a.2.1 a.2.2
 generalize hb:AU a.2.1 a.2.2=b at l2
 generalize hc:AU b.2.1 b.2.2=c
 have na:a.1<18446744073709551616:=by rw[←ha];exact IW _ _
 have nb:b.1<18446744073709551616:=by rw[←hb];exact IW _ _
 have hm:IV s=(⟨D8 a.1,D8 b.1,zz c.1⟩,EM c.2.1 c.2.2):=by simp only[IV,ha,hb,hc]
 rw[hm]
 generalize hz:zero P 108=z
 have e1:∀x,AP [V.str x]=[V.str x]:=fun _=>rfl
 have e2:AP [CQ 1]=[CQ 1]:=rfl
 have N1:Cl 54 [V.str s] [z]=some (CQ 1,[z,BG s 0]):=FV [z] s
 have N2:Cl 55 [CQ 1] [z,BG s 0]=some (.int .u64 (a.1:Int),[z,BG a.2.1 a.2.2]):=by
  have:=He (h:=[z,BG s 0]) (id:=1) rfl hl;rw[ha]at this;exact this
 have N3:Cl 55 [CQ 1] [z,BG a.2.1 a.2.2]=some (.int .u64 (b.1:Int),[z,BG b.2.1 b.2.2]):=by
  have:=He (h:=[z,BG a.2.1 a.2.2]) (id:=1) rfl (by omega);rw[hb]at this;exact this
 have N4:Cl 131 [CQ 1] [z,BG b.2.1 b.2.2]=some (.int .i64 (zz c.1),[z,BG c.2.1 c.2.2]):=by
  have:=ALr (h:=[z,BG b.2.1 b.2.2]) (id:=1) rfl (by omega);rw[hc]at this;exact this
 have E1:∀y,Cl 86 [CQ 1] [z,BG c.2.1 c.2.2,y]=some (.int .i64 (EM c.2.1 c.2.2:Int),[z,BG c.2.1 c.2.2,y]):=fun y=>Uu rfl
 have s1:Ec P ([z,BG c.2.1 c.2.2]++[z]) 108 (.ref 2 [] 108) (Ac ⟨D8 a.1,D8 b.1,zz c.1⟩)=some [z,BG c.2.1 c.2.2,Ac ⟨D8 a.1,D8 b.1,zz c.1⟩]:=Ce rfl (AFv _) rfl
 have s2:∀m y,Ec P [z,BG c.2.1 c.2.2,y] 108 (.ref 0 [] 108) (Ac m)=some [Ac m,BG c.2.1 c.2.2,y]:=fun m y=>Ce rfl (AFv _) rfl
 rw[AHd]
 simp only[AAZ,AAa,AAb,AAc,e1,hz,List.nil_append,List.length_nil,N1,Option.bind_some,e2,N2,N3,N4,ABT _ na,ABT _ nb,V.noOwn,if_true,AIg,List.length_cons]
 show((Ec P ([z,BG c.2.1 c.2.2]++[z]) 108 (.ref 2 [] 108) (Ac ⟨D8 a.1,D8 b.1,zz c.1⟩)).bind _)=_
 rw[s1,Option.bind_some]
 generalize hmm:(⟨D8 a.1,D8 b.1,zz c.1⟩:Msg)=m
 have hid:CU P Dn W (some (.ref 2 [] 108)) (.clo 86 []) [CQ 1] [z,BG c.2.1 c.2.2,Ac m] (fun t22 h_1=>(Ec P h_1 108 (.ref 0 [] 108) (Ac m)).bind fun h_2=>(Aa h_2 108 (.ref 0 [] 108)).bind fun c_10=>if(List.all [t22,c_10] V.okE)=true then AV 0 h_2 (V.tup [c_10,t22])else none)
  =some (.tup [Ac m,.int .i64 (EM c.2.1 c.2.2:Int)],[]):=by
  have aw:(V.away 2 (V.clo 86 [])&&BZ 2 [CQ 1]&&BZ 2 ([z,BG c.2.1 c.2.2,Ac m].set 2 void))=true:=by
   rw[←hz,Yk];rfl
  have aw2:(V.away 2 (V.int .i64 (EM c.2.1 c.2.2:Int))&&BZ 2 [z,BG c.2.1 c.2.2,void]&&Nat.blt 2 [z,BG c.2.1 c.2.2,void].length)=true:=by
   rw[←hz,Yk];rfl
  have st:[z,BG c.2.1 c.2.2,Ac m].set 2 void=[z,BG c.2.1 c.2.2,void]:=rfl
  simp only[CU,List.getElem?_cons_succ,List.getElem?_cons_zero]
  rw[if_pos aw,st,Gn _ (by kernel_rfl) (by kernel_rfl)]
  have e3:AP ([CQ 1]++[])=[CQ 1]:=rfl
  rw[e3,E1,Option.bind_some]
  simp only
  rw[if_pos aw2]
  have st2:[z,BG c.2.1 c.2.2,void].set 2 (Ac m)=[z,BG c.2.1 c.2.2,Ac m]:=rfl
  rw[st2,s2,Option.bind_some,BR (Cm rfl),Option.bind_some]
  rfl
 have l0:Aa [z,BG c.2.1 c.2.2,Ac m] 108 (.ref 2 [] 108)=some (Ac m):=BR (Cm rfl)
 have sb:Ey (V.ref 2 [] 108) (V.ref 2 [] 108)=true:=rfl
 show(Ui (.ref 0 [] 108) (CQ 1) (.ref 2 [] 108) [z,BG c.2.1 c.2.2,Ac m] _)=_
 simp only[Ui,sb,if_true,l0,Option.bind_some]
 exact hid
end
section
open Go AM
@[go_sem] theorem AP4 (m:Msg):(Ac m).pl=true:=(rfl)
@[go_sem] theorem Fb (l:List Msg):Gj (l.map Ac)=true:=Dk (fun _=>rfl) l
@[go_sem] theorem XL (m:Msg):BK 107 (Ac m)=true:=Hu ..
@[go_sem] theorem XM (l:List Msg):(l.map Ac).all (BK 107)=true:=all_map (fun _=>Hu ..) l
end
section
open Go AM
def Lp (n:Int):Bool:=decide (1125899906842624<n)||decide (n< -1125899906842624)
theorem IX (n:Int):Cl 121 [.int .i64 n] []=some (.bool (Lp n),[]):=by
 rw[AHl,Lp]
 by_cases h:1125899906842624<n
 ·simp(disch:=first|assumption|omega|(with_reducible rfl)|(simp only[go_sem];done)|(simp only[go_sem];omega)|fail) only[↓reduceIte,↓AA,Nat.reduceAdd,go_sem]
  rw[decide_eq_true h];rfl
 ·simp(disch:=first|assumption|omega|(with_reducible rfl)|(simp only[go_sem];done)|(simp only[go_sem];omega)|fail) only[↓reduceIte,↓AA,Nat.reduceAdd,go_sem]
  rw[decide_eq_false h];rfl
def H7 (x:Vtx):Bool:= !(decide (x.id<0)||decide (64≤x.id)||Lp x.val||Lp x.inn||(!x.has&&decide (x.inn≠0)))
theorem ACU (x:Vtx):Cl 96 [Ja x] []=some (.int .i64 (if H7 x=true then 0 else 100),[]):=by
 by_cases h1:x.id<0
 ·rw[show(if H7 x=true then(0:Int)else 100)=100 from if_neg (by simp[H7,h1])]
  rw[Jp]
  simp only[Ja]
  simp(disch:=first|assumption|omega|(with_reducible rfl)|(simp only[go_sem];done)|(simp only[go_sem];omega)|fail) only[↓reduceIte,↓AA,Nat.reduceAdd,go_sem]
 by_cases h2:64≤x.id
 ·rw[show(if H7 x=true then(0:Int)else 100)=100 from if_neg (by simp[H7,h2])]
  rw[Jp]
  simp only[Ja]
  simp(disch:=first|assumption|omega|(with_reducible rfl)|(simp only[go_sem];done)|(simp only[go_sem];omega)|fail) only[↓reduceIte,↓AA,Nat.reduceAdd,go_sem]
 by_cases h3:Lp x.val=true
 ·rw[show(if H7 x=true then(0:Int)else 100)=100 from if_neg (by simp[H7,h3])]
  rw[Jp]
  simp only[Ja]
  simp(disch:=first|assumption|omega|(with_reducible rfl)|(simp only[go_sem];done)|(simp only[go_sem];omega)|fail) only[↓reduceIte,↓AA,Nat.reduceAdd,go_sem,IX,h3]
 by_cases h4:Lp x.inn=true
 ·rw[show(if H7 x=true then(0:Int)else 100)=100 from if_neg (by simp[H7,h4])]
  rw[Jp]
  simp only[Ja]
  simp(disch:=first|assumption|omega|(with_reducible rfl)|(simp only[go_sem];done)|(simp only[go_sem];omega)|fail) only[↓reduceIte,↓AA,Nat.reduceAdd,go_sem,IX,h3,h4]
 simp only[Bool.not_eq_true]at h3 h4
 cases h5:x.has
 ·by_cases h6:x.inn=0
  ·rw[show(if H7 x=true then(0:Int)else 100)=0 from if_pos (by simp only[H7,h3,h4,h5,h6,decide_eq_false h1,decide_eq_false h2];rfl)]
   rw[Jp]
   simp only[Ja]
   simp(disch:=first|assumption|omega|(with_reducible rfl)|(simp only[go_sem];done)|(simp only[go_sem];omega)|fail) only[↓reduceIte,↓AA,Nat.reduceAdd,go_sem,IX,h3,h4,h5]
  ·rw[show(if H7 x=true then(0:Int)else 100)=100 from if_neg (by simp[H7,h5,h6])]
   rw[Jp]
   simp only[Ja]
   simp(disch:=first|assumption|omega|(with_reducible rfl)|(simp only[go_sem];done)|(simp only[go_sem];omega)|fail) only[↓reduceIte,↓AA,Nat.reduceAdd,go_sem,IX,h3,h4,h5]
 ·rw[show(if H7 x=true then(0:Int)else 100)=0 from if_pos (by simp[H7,h1,h2,h3,h4,h5])]
  rw[Jp]
  simp only[Ja]
  simp(disch:=first|assumption|omega|(with_reducible rfl)|(simp only[go_sem];done)|(simp only[go_sem];omega)|fail) only[↓reduceIte,↓AA,Nat.reduceAdd,go_sem,IX,h3,h4,h5]
def NW (b:Bool):Nat:=if b=true then 1 else 0
theorem AMG (b:Bool):Cl 98 [.bool b] []=some (.int .u64 (NW b:Int),[]):=by
 rw[ALV]
 cases b<;>rfl
def vtxB (x:Vtx):List UInt8:=if H7 x=true then Aq x.id.toNat++Aq (Qq x.val)++Aq (NW x.act)++Aq (NW x.has)++Aq (Qq x.inn)else[]
theorem XO {a:V} {f:Fl} {l:List UInt8} {n:Int} (hf:OK f) (h1:I64 n) (hl:l.length≤2000000000):Cl 97 [Bh 1,.int .i64 n] [a,BD f l]=some (.tup [],[a,BD .own (l++Aq (Qq n))]):=SK (h:=[a,BD f l]) (id:=1) rfl hf h1.1 h1.2 (by omega)
theorem ABU (b:Bool):(NW b:Int)<18446744073709551616:=by cases b<;>decide
theorem AFw (x:Vtx):(vtxB x).length≤50:=by
 have a:=Af 10 x.id.toNat;have b:=Af 10 (Qq x.val);have c:=Af 10 (Qq x.inn)
 have d:=Af 10 (NW x.act);have e:=Af 10 (NW x.has)
 simp only[vtxB];split
 ·simp only[List.length_append,Aq];omega
 ·simp
theorem AIh {x:Vtx} (hx:VOk x):Cl 67 [Ja x] []=some (.str (vtxB x),[]):=by
 obtain⟨x1,x2,x3⟩:=hx
 have hc:=ACU x
 by_cases h:H7 x=true
 ·have h0:0≤x.id:=by simp only[H7,Bool.not_eq_true',Bool.or_eq_false_iff,decide_eq_false_iff_not]at h;omega
  have hlt:x.id<18446744073709551616:=by have:=x1.2;omega
  rw[if_pos h]at hc
  rw[vtxB,if_pos h,AEA]
  have a:=Af 10 x.id.toNat;have b:=Af 10 (Qq x.val);have c:=Af 10 (Qq x.inn)
  have d:=Af 10 (NW x.act);have e:=Af 10 (NW x.has)
  generalize ha:Aq x.id.toNat=n1
  generalize hb:Aq (Qq x.val)=n2
  generalize hd:Aq (NW x.act)=n3
  generalize he:Aq (NW x.has)=n4
  have s1:∀w:V,Cl 46 [Bh 1,.int .u64 x.id] [w,BD .nil []]=_:=fun w=>IQ (a:=w) (f:= .nil) (l:=[]) AFn h0 hlt (by simp)
  rw[ha,List.nil_append]at s1
  have t1:n1.length≤10:=ha▸a
  have s2:∀w:V,Cl 97 [Bh 1,.int .i64 x.val] [w,BD .own n1]=_:=fun w=>XO (a:=w) IU x2 (by omega)
  rw[hb]at s2
  have t2:n2.length≤10:=hb▸b
  have s3:∀w:V,Cl 46 [Bh 1,.int .u64 (NW x.act:Int)] [w,BD .own (n1++n2)]=_:=fun w=>IQ (a:=w) IU (by omega) (ABU _) (by simp only[List.length_append];omega)
  rw[Int.toNat_natCast,hd]at s3
  have t3:n3.length≤10:=hd▸d
  have s4:∀w:V,Cl 46 [Bh 1,.int .u64 (NW x.has:Int)] [w,BD .own (n1++n2++n3)]=_:=fun w=>IQ (a:=w) IU (by omega) (ABU _) (by simp only[List.length_append];omega)
  rw[Int.toNat_natCast,he]at s4
  have t4:n4.length≤10:=he▸e
  have s5:∀w:V,Cl 97 [Bh 1,.int .i64 x.inn] [w,BD .own (n1++n2++n3++n4)]=_:=fun w=>XO (a:=w) IU x3 (by simp only[List.length_append];omega)
  have hb1:∀b,Cl 98 [.bool b] []=_:=AMG
  simp only[List.append_assoc]at s3 s4 s5⊢
  simp only[Ja]at hc⊢
  simp(disch:=first|assumption|omega|(with_reducible rfl)|(simp only[go_sem];done)|(simp only[go_sem];omega)|fail) only[↓reduceIte,↓AA,Nat.reduceAdd,go_sem,hc,XH,s1,s2,s3,s4,s5,hb1,Sj]
 ·rw[if_neg h]at hc
  rw[vtxB,if_neg h,AEA]
  simp only[Ja]at hc⊢
  simp(disch:=first|assumption|omega|(with_reducible rfl)|(simp only[go_sem];done)|(simp only[go_sem];omega)|fail) only[↓reduceIte,↓AA,Nat.reduceAdd,go_sem,hc]
abbrev AFx (n:Nat):V:= .win 0 [] 0 n 9
abbrev ACV (d:List (List UInt8)):V:= .row 9 (d.map V.str)
theorem ACW (n:Nat) (f:Fl) (l:List Vtx):V.under n (.lst 81 f (l.map Ja))=true:=by
 have:=(V.PF (.agg 0 (l.map Ja)) (AIV l)).under n
 cases f<;>first|rfl|exact this
theorem AFy {l:List Vtx} (hl:∀x∈l,VOk x) (hn:l.length≤1000000) (f:Fl):∀(n i:Nat) (d:List (List UInt8)),i+n=l.length→d.length=l.length→
 UR (AFx l.length) (.lst 81 f (l.map Ja)) (.int .i64 (l.length:Int)) (.int .i64 (i:Int)) [ACV d]=some (.lst 9 .sh ((d.take i++(l.drop i).map vtxB).map V.str),[]):=by
 intro n
 induction n with
 |zero=>
  intro i d hi hd
  have e1:l.drop i=[]:=List.drop_eq_nil_of_le (by omega)
  rw[e1,List.map_nil,List.append_nil,List.take_of_length_le (by omega),Rh]
  have c:Ah [ACV d] (AFx l.length)=some (d.map V.str):=by
   simp only[Ah,rd,List.getElem?_cons_zero,Option.bind_some,V.at,V.items,List.drop_zero]
   simp only[V.items,Option.map_some,Option.bind_some]
   rw[←hd];exact congrArg some (List.take_of_length_le (by simp))
  have fin:AV 0 [ACV d] (AFx l.length)=some (.lst 9 .sh (d.map V.str),[]):=by
   have cl:AY (d.map V.str)=true:=by
    clear c hd;induction d with
    |nil=>rfl
    |cons x t ih=>simp only[List.map_cons,AY,ih];rfl
   have nl:AP (d.map V.str)=d.map V.str:=by
    clear c hd cl;induction d with
    |nil=>rfl
    |cons x t ih=>simp only[List.map_cons,AP,ih];rfl
   simp only[AV,V.unmut,c,cl,nl,if_true]
   rfl
  simp(disch:=first|assumption|omega|(with_reducible rfl)|(simp only[go_sem];done)|(simp only[go_sem];omega)|fail) only[↓reduceIte,↓AA,Nat.reduceAdd,go_sem,fin]
 |succ n ih=>
  intro i d hi hd
  have h:i<l.length:=by omega
  have hx:=hl _ (List.getElem_mem h)
  have hr:=AIh hx
  have:=ih (i+1) (d.set i (vtxB l[i])) (by omega) (by simp[hd])
  have e:(d.set i (vtxB l[i])).take (i+1)++(l.drop (i+1)).map vtxB=d.take i++(l.drop i).map vtxB:=by
   rw[List.drop_eq_getElem_cons h,List.map_cons,List.take_add_one,List.take_set_of_le (by omega),List.getElem?_set_self (by omega)]
   simp
  rw[e]at this
  rw[←this,Rh]
  have ix:Di 9 (V.weak (AFx l.length)) (.int .i64 (i:Int))=some (.ref 0 [i] 9):=by
   simp only[V.weak,Di,inside]
   simp;omega
  have hu:=ACW 1 f l
  rw[ACV,ACV,List.map_set]
  simp(disch:=first|assumption|omega|(with_reducible rfl)|(simp only[go_sem];done)|(simp only[go_sem];omega)|fail) only[↓reduceIte,↓AA,Nat.reduceAdd,go_sem,AOk h,hr,ix,hu]
theorem XP {l:List Vtx} (hl:∀x∈l,VOk x) (hn:l.length≤1000000) (f:Fl):Cl 36 [.lst 81 f (l.map Ja)] []=some (.lst 9 .sh ((l.map vtxB).map V.str),[]):=by
 have h:=AFy hl hn f l.length 0 (List.replicate l.length []) (by omega) (by simp)
 rw[List.take_zero,List.nil_append,List.drop_zero]at h
 simp only[c0]at h
 have mk:mkL 9 (.str []) (.int .i64 (l.length:Int)) (.int .i64 (l.length:Int))=some (.lst 9 .own (List.replicate l.length (.str []))):=by
  simp only[mkL]
  rw[if_pos ⟨by omega,by omega,by omega⟩];rfl
 have tb:Dz [] (.lst 9 .own (List.replicate l.length (.str [])))=some (AFx l.length,[ACV (List.replicate l.length [])]):=by
  simp[Dz]
 rw[←h,AKr]
 simp(disch:=first|assumption|omega|(with_reducible rfl)|(simp only[go_sem];done)|(simp only[go_sem];omega)|fail) only[↓reduceIte,↓AA,Nat.reduceAdd,go_sem,mk,tb]
theorem AMH (l:List Vtx):Short (l.map vtxB):=by
 intro s hs
 obtain⟨x,_,rfl⟩:=List.mem_map.1 hs
 have:=AFw x;omega
def vrootB (l:List Vtx):List UInt8:=AFm (l.map vtxB)
theorem AFz {l:List Vtx} (hl:∀x∈l,VOk x) (hn:l.length≤1000000) (f:Fl):Cl 35 [.lst 81 f (l.map Ja)] []=some (Au (vrootB l),[]):=by
 have h:=XP hl hn
 rw[AKq,Py]
 simp(disch:=first|assumption|omega|(with_reducible rfl)|(simp only[go_sem];done)|(simp only[go_sem];omega)|fail) only[↓reduceIte,↓AA,Nat.reduceAdd,go_sem,h,AIb (l:=l.map vtxB) (by simp;omega) (AMH l)]
 rfl
end
section
open Go AM
theorem P7 {f:FuncId} {id:Nat} {p:List Nat} {t:TypeId} {vs vs' h:List V} {v r:V} (he:Dn.ext f=false) (hp:Dn.pure f=true) (hh:h[id]?=some v) (haw:BZ id (h.set id void)=true)
 (hv:BZ id vs=true) (hrf:AL (h.set id void) vs=vs') (hr:r.away id=true) (e:Cl f vs' []=some (r,[])) (k:V→List V→Rv) (hs:(Dn.seq f).1=0:=by kernel_rfl):
 CU P Dn W (some (.ref id p t)) (.clo f []) vs h k=k r h:=by
 have hlt:=HY hh
 simp only[CU,hh,haw,hv]
 rw[if_pos (show(V.away id (.clo f [])&&true&&true)=true from rfl),KO _ he hp hs,List.append_nil,hrf]
 refine(AB e _).trans ?_
 rw[if_pos (by rw[hr,haw,List.length_set];simp only[Bool.true_and];exact Nat.ble_eq_true_of_le hlt),List.set_set]
 congr 1
 exact(List.ext_getElem? fun i=>by
  by_cases hi:i=id
  ·subst hi;rw[List.getElem?_set_self hlt,hh]
  ·rw[List.getElem?_set_ne (Ne.symm hi)])
theorem IY {h:List V} {id i:Nat} {u e t:TypeId} {f:Fl} {fs xs:List V} (hh:h[id]?=some (.agg u fs)) (hf:fs[i]?=some (.lst e f xs)):Bd h t (.ref id [i] t)=some (.lst e f xs,h.set id (.agg u (fs.set i (.lst e f.wk xs)))):=by
 simp only[Bd,if_true,rd,wr,hh,Option.bind_some,V.at,V.upd,hf,ACM,Option.map_some]
@[go_sem] theorem ARJ (t u:TypeId) (xs ys:List V):Dq true [.lst t .own xs,.lst u .own ys]=true:=(rfl)
@[go_sem] theorem ARK (t u:TypeId) (xs ys:List V):Dq true [.lst t .nil xs,.lst u .own ys]=true:=(rfl)
structure Bk where
 step:Int
 gone:List Bool
 roots:List (List UInt8)
 known:List (List (List UInt8))
 sent:List Msg
 deriving DecidableEq
abbrev Lr:TypeId:=32
def sS (l:List (List UInt8)):V:= .lst 9 .sh (l.map V.str)
abbrev Jc (f0 f1 f2 f3:Fl) (b:Bk):V:= .agg Lr [.int .i64 b.step,.lst 4 f0 (b.gone.map V.bool),.lst 55 f1 (b.roots.map Au),.lst 58 f2 (b.known.map sS),.lst 108 f3 (b.sent.map Ac)]
abbrev vB (b:Bk):V:=Jc .sh .sh .sh .sh b
def zB:Bk:=⟨0,[],[],[],[]⟩
@[go_sem] theorem AIi (l:List (List UInt8)):(sS l).weak=sS l:=(rfl)
@[go_sem] theorem AKB (l:List (List UInt8)):(sS l).pl=true:=KT l
@[go_sem] theorem VB (l:List (List (List UInt8))):Gj (l.map sS)=true:=Dk AKB l
@[go_sem] theorem FK (l:List Bool):Gj (l.map V.bool)=true:=Dk (fun _=>rfl) l
@[go_sem] theorem AMI (l:List (List UInt8)):JS 9 (sS l)=true:=(rfl)
@[go_sem] theorem ARL (l:List (List (List UInt8))):(l.map sS).all (JS 9)=true:=all_map AMI l
@[go_sem] theorem Sm (l:List Bool):(l.map V.bool).all AM.tyB=true:=all_map (fun _=>rfl) l
@[go_sem] theorem EZ (l:List (List UInt8)):Gj (l.map Au)=true:=Dk Jy l
def Gg (g:Grf) (j:Job) (N w:Nat):List Vtx:=(ofL g.n.toNat N w).map fun(v:Nat)=>firstX j (v:Int)
def Bz (g:Grf) (j:Job) (N:Nat):Bk:=⟨0,List.replicate N false,(List.range N).map fun w=>vrootB (Gg g j N w),(List.range N).map fun w=>(Gg g j N w).map vtxB,[]⟩
theorem ACX (j:Job) {v:Nat} (hv:v<64):VOk (firstX j (v:Int)):=by
 have: -9223372036854775808≤(37*(v:Int)+11).tmod 64∧(37*(v:Int)+11).tmod 64<9223372036854775808:=by
  rw[Int.tmod_eq_emod_of_nonneg (by omega)];omega
 simp only[VOk,firstX,I64]
 repeat' split
 all_goals (simp only[];omega)
theorem AIj {g:Grf} (hg:g.n≤64) (j:Job) (N w:Nat):∀x∈Gg g j N w,VOk x:=by
 intro x hx
 obtain⟨v,hv,rfl⟩:=List.mem_map.1 hx
 have:=AFs hv
 exact ACX j (by omega)
theorem XQ (g:Grf) (j:Job) (N w:Nat):(Gg g j N w).length≤g.n.toNat:=by
 rw[Gg,List.length_map];exact OI _ _ _
theorem Sr (l:List Vtx):(vrootB l).length=32:=Si _ _
attribute [local irreducible] vrootB vtxB firstX
def IZ (g:Grf) (j:Job) (N w:Nat):Bk:=⟨0,List.replicate N false,(List.range w).map fun w=>vrootB (Gg g j N w),(List.range w).map fun w=>(Gg g j N w).map vtxB,[]⟩
theorem XR (h:List V) (f:Fl) (l:List Vtx) (hf:f= .sh∨f= .nil):AL h [.lst 81 f (l.map Ja)]=[.lst 81 .sh (l.map Ja)]:=by
 rcases hf with rfl|rfl<;>rfl
theorem AF0 {g:Grf} (hg:g.n≤64) (h1:1≤g.n) {j:Job} {N w:Nat} (hN:N≤64) (hw:w<N) {f f1 f2:Fl} (hf:f= .own∨f= .nil) (hf1:f1= .own∨f1= .nil) (hf2:f2= .own∨f2= .nil) (a z:V) (ha:a.away 3=true) (hz:z.away 3=true) {L:List Nat} (i m0:Nat) (hL:L.length=i):
 OZ (.int .i64 (N:Int)) (.ref 0 [] 24) (.ref 1 [] 26) (.ref 2 [] 33) (.ref 3 [] 33) (.lst 81 f ((Gg g j N w).map Ja)) (.int .i64 (N:Int)) (.int .i64 (w:Int)) (vNs .sh L) (.int .i64 (i:Int)) (.int .i64 (i:Int)) m0 [a,vJ j,z,Jc .sh f1 f2 .nil (IZ g j N w)]=
  LY (.int .i64 (N:Int)) (.ref 0 [] 24) (.ref 1 [] 26) (.ref 2 [] 33) (.ref 3 [] 33) (.int .i64 (N:Int)) (.int .i64 ((w+1:Nat):Int)) [a,vJ j,z,Jc .sh .own .own .nil (IZ g j N (w+1))]:=by
 have hl:=XQ g j N w
 have ok:=AIj hg j N w
 have hR:=AFz ok (by omega) .sh
 have hW:=XP ok (by omega) .sh
 have e1:(IZ g j N (w+1)).roots=(IZ g j N w).roots++[vrootB (Gg g j N w)]:=by simp[IZ,List.range_succ]
 have e2:(IZ g j N (w+1)).known=(IZ g j N w).known++[(Gg g j N w).map vtxB]:=by simp[IZ,List.range_succ]
 have e3:(IZ g j N (w+1)).gone=(IZ g j N w).gone:=rfl
 have e4:(IZ g j N (w+1)).step=(IZ g j N w).step:=rfl
 have e5:(IZ g j N (w+1)).sent=(IZ g j N w).sent:=rfl
 have l1:(IZ g j N w).roots.length=w:=by simp[IZ]
 have l2:(IZ g j N w).known.length=w:=by simp[IZ]
 have l3:=Sr (Gg g j N w)
 rw[show Jc .sh .own .own .nil (IZ g j N (w+1))= .agg Lr [.int .i64 (IZ g j N w).step,.lst 4 .sh ((IZ g j N w).gone.map V.bool),.lst 55 .own (((IZ g j N w).roots++[vrootB (Gg g j N w)]).map Au),.lst 58 .own (((IZ g j N w).known++[(Gg g j N w).map vtxB]).map sS),.lst 108 .nil ((IZ g j N w).sent.map Ac)]from by rw[←e1,←e2,←e3,←e4,←e5]]
 generalize IZ g j N w=b at*
 generalize hrt:vrootB (Gg g j N w)=rt at*
 generalize hkn:(Gg g j N w).map vtxB=kn at*
 generalize Gg g j N w=xs at*
 have hfw:f.wk= .sh∨f.wk= .nil:=by rcases hf with rfl|rfl<;>simp[Fl.wk]
 have aw:∀v:V,BZ 3 ([a,vJ j,z,v].set 3 void)=true:=by
  intro v
  simp only[List.set_cons_succ,List.set_cons_zero,BZ,ha,hz];rfl
 have avx:∀f:Fl,f= .sh∨f= .nil→BZ 3 [.lst 81 f (xs.map Ja)]=true:=by rintro f (rfl|rfl)<;>rfl
 have c1:∀(v:V) (k:V→List V→Rv),CU P Dn W (some (.ref 3 [] 33)) (.clo 35 []) [.lst 81 f.wk (xs.map Ja)] [a,vJ j,z,v] k=k (Au rt) [a,vJ j,z,v]:=
  fun v k=>P7 (by kernel_rfl) (by kernel_rfl) (v:=v) rfl (aw v) (avx _ hfw) (XR _ _ _ hfw) ((V.PF _ (Jy _)).away 3) hR k
 have c2:∀(v:V) (k:V→List V→Rv),CU P Dn W (some (.ref 3 [] 33)) (.clo 36 []) [.lst 81 f.wk (xs.map Ja)] [a,vJ j,z,v] k=k (sS kn) [a,vJ j,z,v]:=
  fun v k=>P7 (by kernel_rfl) (by kernel_rfl) (v:=v) rfl (aw v) (avx _ hfw) (XR _ _ _ hfw) ((V.PF _ (AKB _)).away 3) hW k
 have t1:Bd [a,vJ j,z,Jc .sh f1 f2 .nil b] 29 (.ref 3 [2] 29)=some (.lst 55 f1 (b.roots.map Au),[a,vJ j,z,Jc .sh f1.wk f2 .nil b]):=IY (h:=[a,vJ j,z,Jc .sh f1 f2 .nil b]) (id:=3) rfl rfl
 have t2:Bd [a,vJ j,z,Jc .sh f1.wk f2 .nil b] 30 (.ref 3 [3] 30)=some (.lst 58 f2 (b.known.map sS),[a,vJ j,z,Jc .sh f1.wk f2.wk .nil b]):=IY (h:=[a,vJ j,z,Jc .sh f1.wk f2 .nil b]) (id:=3) rfl rfl
 rw[RG]
 simp only[Jc]at t1 t2
 have sb2:Ey (.ref 3 [] 33) (.ref 3 [2] 29)=true:=rfl
 have sb3:Ey (.ref 3 [] 33) (.ref 3 [3] 30)=true:=rfl
 have hm:∀x:List UInt8,(b.roots++[x]).map Au=b.roots.map Au++[Au x]:=by simp
 have hm2:∀x,(b.known++[x]).map sS=b.known.map sS++[sS x]:=by simp
 rw[hm,hm2]
 rcases hf1 with rfl|rfl<;>rcases hf2 with rfl|rfl
 all_goals simp only[EN,EO]at t1 t2
 all_goals simp(disch:=first|assumption|omega|(with_reducible rfl)|(simp only[go_sem];done)|(simp only[go_sem];omega)|fail) only[↓reduceIte,↓AA,Nat.reduceAdd,go_sem,c1,c2,t1,t2,sb2,sb3]
theorem AIk {g:Grf} (hg:g.n≤64) (h1:1≤g.n) {j:Job} {N w:Nat} (hN:N≤64) (hw:w<N) {f1 f2:Fl} (hf1:f1= .own∨f1= .nil) (hf2:f2= .own∨f2= .nil) (a z:V) (ha:a.away 3=true) (hz:z.away 3=true) (m0:Nat):∀(n i:Nat) (f:Fl),(f= .own∨f= .nil)→i+n=(ofL g.n.toNat N w).length→
 OZ (.int .i64 (N:Int)) (.ref 0 [] 24) (.ref 1 [] 26) (.ref 2 [] 33) (.ref 3 [] 33) (.lst 81 f (((ofL g.n.toNat N w).take i).map fun(v:Nat)=>Ja (firstX j (v:Int)))) (.int .i64 (N:Int)) (.int .i64 (w:Int)) (vNs .sh (ofL g.n.toNat N w)) (.int .i64 ((ofL g.n.toNat N w).length:Int)) (.int .i64 (i:Int)) m0 [a,vJ j,z,Jc .sh f1 f2 .nil (IZ g j N w)]=
  LY (.int .i64 (N:Int)) (.ref 0 [] 24) (.ref 1 [] 26) (.ref 2 [] 33) (.ref 3 [] 33) (.int .i64 (N:Int)) (.int .i64 ((w+1:Nat):Int)) [a,vJ j,z,Jc .sh .own .own .nil (IZ g j N (w+1))]:=by
 intro n
 induction n with
 |zero=>
  intro i f hf hi
  have h:=AF0 hg h1 hN hw hf hf1 hf2 a z ha hz (L:=ofL g.n.toNat N w) i m0 (j:=j) (by omega)
  rw[show(ofL g.n.toNat N w).length=i by omega,List.take_of_length_le (by omega)]
  rw[Gg,List.map_map]at h
  exact h
 |succ n ih=>
  intro i f hf hi
  have hlen:=OI g.n.toNat N w
  have hl:i<(ofL g.n.toNat N w).length:=by omega
  have h2:=AFs (List.getElem_mem hl)
  have hx:=AFq j (v:=((ofL g.n.toNat N w)[i]:Nat)) (by omega) (by omega)
  have hc:∀(k:V×List V→Rv),((Cl 34 [vJ j,.int .i64 ((ofL g.n.toNat N w)[i]:Int)] []).bind k)=k (Ja (firstX j ((ofL g.n.toNat N w)[i]:Int)),[]):=fun k=>AB hx k
  have ih':=ih (i+1) .own (Or.inl rfl) (by omega)
  have ix:Di 3 (vNs .sh (ofL g.n.toNat N w)) (.int .i64 (i:Int))=some (.rop 3 (.int .i64 ((ofL g.n.toNat N w)[i]:Int))):=by
   rw[vNs,SS,List.getElem?_map,List.getElem?_eq_getElem hl];rfl
  rw[←List.take_append_getElem hl,List.map_append]at ih'
  generalize hX:(ofL g.n.toNat N w)[i]=x at*
  generalize hF:firstX j (x:Int)=y at*
  generalize Jc .sh f1 f2 .nil (IZ g j N w)=b at*
  generalize Jc .sh .own .own .nil (IZ g j N (w+1))=b2 at*
  generalize ofL g.n.toNat N w=L at*
  simp only[List.map_cons,List.map_nil,hF]at ih'
  rw[←ih',RG]
  rcases hf with rfl|rfl
  all_goals simp(disch:=first|assumption|omega|(with_reducible rfl)|(simp only[go_sem];done)|(simp only[go_sem];omega)|fail) only[↓reduceIte,↓AA,Nat.reduceAdd,go_sem,hc,ix,hF]
theorem AIl (g:Grf) (j:Job) (N:Nat):Bz g j N=IZ g j N N:=rfl
theorem AIm {g:Grf} (hg:g.n≤64) (h1:1≤g.n) {j:Job} {N:Nat} (hN:N≤64) (hN1:1≤N):∀(n w:Nat) (f1 f2:Fl),(f1= .own∨f1= .nil)→(f2= .own∨f2= .nil)→w+n=N→
 LY (.int .i64 (N:Int)) (.ref 0 [] 24) (.ref 1 [] 26) (.ref 2 [] 33) (.ref 3 [] 33) (.int .i64 (N:Int)) (.int .i64 (w:Int)) [vG .sh g,vJ j,Jc .nil .nil .nil .nil zB,Jc .sh f1 f2 .nil (IZ g j N w)]=some (.tup [vB (Bz g j N),.int .i64 0],[]):=by
 intro n
 induction n with
 |zero=>
  intro w f1 f2 hf1 hf2 hi
  obtain rfl:w=N:=by omega
  rw[AIl,RH]
  generalize IZ g j w w=b at*
  rcases hf1 with rfl|rfl<;>rcases hf2 with rfl|rfl
  all_goals simp(disch:=first|assumption|omega|(with_reducible rfl)|(simp only[go_sem];done)|(simp only[go_sem];omega)|fail) only[↓reduceIte,↓AA,Nat.reduceAdd,go_sem]
  all_goals rfl
 |succ n ih=>
  intro w f1 f2 hf1 hf2 hi
  have hw:w<N:=by omega
  have hL:=AIk hg h1 (j:=j) hN hw hf1 hf2 (vG .sh g) (Jc .nil .nil .nil .nil zB) rfl rfl 4 (ofL g.n.toNat N w).length 0 .nil (Or.inr rfl) (by omega)
  have hof:=AME (n:=g.n.toNat) (N:=N) (w:=w) (by omega) (by omega) (by omega) hN hw
  have hlen:=OI g.n.toNat N w
  rw[show(g.n.toNat:Int)=g.n by omega]at hof
  rw[←ih (w+1) .own .own (Or.inl rfl) (Or.inl rfl) (by omega),←hL,RH]
  clear ih hL
  generalize Jc .sh f1 f2 .nil (IZ g j N w)=b at*
  generalize Jc .sh .own .own .nil (IZ g j N (w+1))=b2 at*
  generalize ofL g.n.toNat N w=L at*
  simp(disch:=first|assumption|omega|(with_reducible rfl)|(simp only[go_sem];done)|(simp only[go_sem];omega)|fail) only[↓reduceIte,↓AA,Nat.reduceAdd,go_sem,hof]
  rfl
theorem ABV {g:Grf} {j:Job} (hj:Mc g j=true):1≤g.n∧g.n≤64:=by
 have hg:Jw g=0:=(of_decide_eq_true hj).1
 rw[Jw]at hg
 by_cases h:1≤g.n∧g.n≤64∧g.es.length≤512∧g.es.any (F9 g.n)=false
 ·exact⟨h.1,h.2.1⟩
 ·rw[if_neg h]at hg;omega
theorem Ls {g:Grf} (hl:g.es.length<1000000) (j:Job) (w:Int):Cl 10 [vG .sh g,vJ j,.int .i64 w] []=some (if EG g j w=true then .tup [vB (Bz g j w.toNat),.int .i64 0]else .tup [vB zB,.int .i64 170],[]):=by
 have hc:=ACS hl j
 by_cases hb:EG g j w=true
 ·simp only[EG,Bool.and_eq_true,decide_eq_true_eq]at hb
  obtain⟨hj,h1,h2⟩:=hb
  have hg':=ABV hj
  obtain⟨N,rfl⟩:=Int.eq_ofNat_of_zero_le (show 0≤w by omega)
  have h0:=AIm hg'.2 hg'.1 (j:=j) (N:=N) (by omega) (by omega) N 0 .nil .nil (Or.inr rfl) (Or.inr rfl) (by omega)
  rw[if_pos (by simp only[EG,hj,Bool.true_and,decide_eq_true_eq];omega)]
  rw[if_pos hj]at hc
  rw[ADj]
  simp only[Int.toNat_natCast]
  rw[←h0]
  generalize Bz g j N=b at*
  have hu:IZ g j N 0=⟨0,List.replicate N false,[],[],[]⟩:=rfl
  rw[hu]
  have mk:mkL 4 (.bool false) (.int .i64 (N:Int)) (.int .i64 (N:Int))=some (.lst 4 .own ((List.replicate N false).map V.bool)):=by
   rw[List.map_replicate]
   simp only[mkL]
   rw[if_pos (by omega),Int.toNat_natCast]
  simp(disch:=first|assumption|omega|(with_reducible rfl)|(simp only[go_sem];done)|(simp only[go_sem];omega)|fail) only[↓reduceIte,↓AA,Nat.reduceAdd,go_sem,hc,mk]
  rfl
 ·rw[if_neg hb,ADj]
  simp only[EG]at hb
  generalize Mc g j=q at*
  repeat' first|rfl|refine Wy (fun _=> ?_) (fun _=> ?_)|refine W9 (fun _=> ?_) (fun _=> ?_)|simp(disch:=first|assumption|omega|(with_reducible rfl)|(simp only[go_sem];done)|(simp only[go_sem];omega)|fail) only[↓reduceIte,↓AA,Nat.reduceAdd,go_sem,hc]
  all_goals simp_all
  all_goals omega
end
section
open Go AM
end
section
open Go AM
attribute [local irreducible] vrootB vtxB firstX
end
section
open Go AM
theorem ACY {l:List (List UInt8)} (hn:l.length≤1000000):∀(n i:Nat),i+n=l.length→UN (sS l) (sS l) (.int .i64 (i:Int))=some (.bool true,[]):=by
 intro n
 induction n with
 |zero=>
  intro i hi
  rw[RX]
  simp only[sS]
  simp(disch:=first|assumption|omega|(with_reducible rfl)|(simp only[go_sem];done)|(simp only[go_sem];omega)|fail) only[↓reduceIte,↓AA,Nat.reduceAdd,go_sem]
 |succ n ih=>
  intro i hi
  have h:i<l.length:=by omega
  have hx:(l.map V.str)[i]?=some (.str l[i]):=by simp[h]
  have:=ih (i+1) (by omega)
  rw[←this,RX]
  generalize l[i]=x at*
  simp only[sS]
  simp(disch:=first|assumption|omega|(with_reducible rfl)|(simp only[go_sem];done)|(simp only[go_sem];omega)|fail) only[↓reduceIte,↓AA,Nat.reduceAdd,go_sem,hx]
theorem Sv {l:List (List UInt8)} (hn:l.length≤1000000):Cl 25 [sS l,sS l] []=some (.bool true,[]):=by
 have h:=ACY hn l.length 0 (by omega)
 simp only[c0]at h
 rw[←h,AKj]
 simp only[sS]
 simp(disch:=first|assumption|omega|(with_reducible rfl)|(simp only[go_sem];done)|(simp only[go_sem];omega)|fail) only[↓reduceIte,↓AA,Nat.reduceAdd,go_sem]
structure BkOk (b:Bk):Prop where
 gone:b.gone.length≤1000000
 roots:b.roots.length≤1000000
 known:b.known.length≤1000000
 each:∀k∈b.known,k.length≤1000000
 len:∀r∈b.roots,r.length=32
 sent:b.sent.length≤1000000
theorem AF1 {b:Bk} (hb:BkOk b):∀(n i:Nat),i+n=b.known.length→UE (.ref 0 [] 33) (.ref 1 [] 33) (.int .i64 (i:Int)) [vB b,vB b]=some (.bool true,[]):=by
 have:=hb.known
 intro n
 induction n with
 |zero=>
  intro i hi
  rw[RI]
  simp(disch:=first|assumption|omega|(with_reducible rfl)|(simp only[go_sem];done)|(simp only[go_sem];omega)|fail) only[↓reduceIte,↓AA,Nat.reduceAdd,go_sem]
 |succ n ih=>
  intro i hi
  have h:i<b.known.length:=by omega
  have hx:(b.known.map sS)[i]?=some (sS b.known[i]):=by simp[h]
  have hs:=Sv (hb.each _ (List.getElem_mem h))
  have:=ih (i+1) (by omega)
  rw[←this,RI]
  clear ih this
  generalize b.known[i]=x at*
  simp(disch:=first|assumption|omega|(with_reducible rfl)|(simp only[go_sem];done)|(simp only[go_sem];omega)|fail) only[↓reduceIte,↓AA,Nat.reduceAdd,go_sem,hx,hs]
theorem AF2 {b:Bk} (hb:BkOk b):∀(n i:Nat),i+n=b.roots.length→UD (.ref 0 [] 33) (.ref 1 [] 33) (.int .i64 (i:Int)) [vB b,vB b]=some (.bool true,[]):=by
 have:=hb.roots
 intro n
 induction n with
 |zero=>
  intro i hi
  have h4:=AF1 hb b.known.length 0 (by omega)
  simp only[c0]at h4
  rw[←h4,RJ]
  simp(disch:=first|assumption|omega|(with_reducible rfl)|(simp only[go_sem];done)|(simp only[go_sem];omega)|fail) only[↓reduceIte,↓AA,Nat.reduceAdd,go_sem]
 |succ n ih=>
  intro i hi
  have h:i<b.roots.length:=by omega
  have hx:(b.roots.map Au)[i]?=some (Au b.roots[i]):=by simp[h]
  have hl:=hb.len _ (List.getElem_mem h)
  have:=ih (i+1) (by omega)
  rw[←this,RJ]
  clear ih this
  generalize b.roots[i]=x at*
  have hne:NU (BK 54) .neq (Au x) (Au x)=some (.bool false):=by
   rw[neA hl hl];simp
  simp(disch:=first|assumption|omega|(with_reducible rfl)|(simp only[go_sem];done)|(simp only[go_sem];omega)|fail) only[↓reduceIte,↓AA,Nat.reduceAdd,go_sem,hx,hne]
theorem AF3 {b:Bk} (hb:BkOk b):∀(n i:Nat),i+n=b.gone.length→UC (.ref 0 [] 33) (.ref 1 [] 33) (.int .i64 (i:Int)) [vB b,vB b]=some (.bool true,[]):=by
 have:=hb.gone
 intro n
 induction n with
 |zero=>
  intro i hi
  have h4:=AF2 hb b.roots.length 0 (by omega)
  simp only[c0]at h4
  rw[←h4,RN]
  simp(disch:=first|assumption|omega|(with_reducible rfl)|(simp only[go_sem];done)|(simp only[go_sem];omega)|fail) only[↓reduceIte,↓AA,Nat.reduceAdd,go_sem]
 |succ n ih=>
  intro i hi
  have h:i<b.gone.length:=by omega
  have hx:(b.gone.map V.bool)[i]?=some (.bool b.gone[i]):=by simp[h]
  have:=ih (i+1) (by omega)
  rw[←this,RN]
  clear ih this
  generalize b.gone[i]=x at*
  have hne:NU AM.tyB .neq (.bool x) (.bool x)=some (.bool false):=by cases x<;>rfl
  simp(disch:=first|assumption|omega|(with_reducible rfl)|(simp only[go_sem];done)|(simp only[go_sem];omega)|fail) only[↓reduceIte,↓AA,Nat.reduceAdd,go_sem,hx,hne]
theorem ACZ {b:Bk} (hb:BkOk b) (hS:Cl 38 [.lst 108 .sh (b.sent.map Ac),.lst 108 .sh (b.sent.map Ac)] []=some (.bool true,[])):Cl 13 [vB b,vB b] []=some (.bool true,[]):=by
 have h:=AF3 hb b.gone.length 0 (by omega)
 simp only[c0]at h
 rw[←h,AKd]
 simp(disch:=first|assumption|omega|(with_reducible rfl)|(simp only[go_sem];done)|(simp only[go_sem];omega)|fail) only[↓reduceIte,↓AA,Nat.reduceAdd,go_sem,hS]
theorem AIn:Cl 38 [.lst 108 .sh [],.lst 108 .sh []] []=some (.bool true,[]):=DN.2 ⟨60,by kernel_rfl⟩
theorem AIo {g:Grf} {j:Job} {N:Nat} (hg:g.n≤64) (hN:N≤64):BkOk (Bz g j N):=by
 refine⟨by simp[Bz];omega,by simp[Bz];omega,by simp[Bz];omega,?_,?_,by simp[Bz]⟩
 ·intro k hk
  simp only[Bz,List.mem_map]at hk
  obtain⟨w,_,rfl⟩:=hk
  have:=XQ g j N w
  simp only[List.length_map];omega
 ·intro r hr
  simp only[Bz,List.mem_map]at hr
  obtain⟨w,_,rfl⟩:=hr
  exact Sr _
theorem XT {g:Grf} (hl:g.es.length<1000000):Cl 11 [vG .sh g] []=some (vG .sh g,[]):=by
 rw[AKb]
 have ap:∀h:List V,G6 112 (BK 111) false h (.lst 112 .own []) (.lst 112 .sh (g.es.map Pv))=some (.lst 112 .own ([]++g.es.map Pv)):=fun h=>
  Eg (V.PFL _ (AIO g.es)).clean (all_map AIP _) (by simp;omega) _ _ _
 simp(disch:=first|assumption|omega|(with_reducible rfl)|(simp only[go_sem];done)|(simp only[go_sem];omega)|fail) only[↓reduceIte,↓AA,Nat.reduceAdd,go_sem,ap]
end
section
open Go AM
end
section
open Go AM
def Sz (f:FuncId) (arg bx ix:V) (sT:TypeId) (n:Nat) (tS tE:TypeId) (v:Bool) (h:List V) (k:List V→Rv):Rv:=
 if(Dn.pure f&& !Dn.ext f&&decide ((Dn.seq f).1=0))=true then
  (Cl f (AL h [arg]) []).bind fun r=>
   match r.1,bx,ix with
   | .lst e .own xs,.ref id p t',.int _ j=>(AM.boolsOf xs).bind fun bs=>(A7 P sT n (.ref id p t')).bind fun a=>
     if(decide (0≤j)&&Nat.blt j.toNat bs.length&&BN P tE (.bool v))=true then
      (Ec P h tS a (.lst e .own ((bs.set j.toNat v).map .bool))).bind fun h'=>k h'
     else none
   |_,_,_=>none
 else none
theorem P8 (t0 t1 t2 t3:V) (h:List V):Cl 57 [t0,t1,t2,t3] h=
 if((BK 23) (V.weak t0)&&V.under (List.length h) (V.weak t0))=true then if((BK 25) t1&&V.under (List.length (h++[(V.weak t0)])) t1)=true then if((BK 32) (V.weak t2)&&V.under (List.length ((h++[(V.weak t0)])++[t1])) (V.weak t2))=true then(Cl 55 (AP [t3]) ((((h++[(V.weak t0)])++[t1])++[(V.weak t2)])++[(V.agg 32 [(V.int .i64 0),(V.lst 4 .nil []),(V.lst 55 .nil []),(V.lst 58 .nil []),(V.lst 108 .nil [])])])).bind fun r_1=>jn (fun t32_2 h_3=>
 V.ite t32_2
  (((ck [] [(V.int .i64 0),(V.lst 4 .nil []),(V.lst 55 .nil []),(V.lst 58 .nil []),(V.lst 108 .nil [])]).map (.agg 32)).bind fun t33_4=>(Cc (BK 32) 33 h_3 (V.ref (List.length (((h++[(V.weak t0)])++[t1])++[(V.weak t2)])) [] 33) t33_4).bind fun h_5=>(BA h_5 33 (V.ref (List.length (((h++[(V.weak t0)])++[t1])++[(V.weak t2)])) [] 33)).bind fun c_6=>if(List.all [(V.bool false),c_6] V.okE)=true then AV (List.length h) h_5 (V.tup [c_6,(V.bool false)])else none)
  ((BA h_3 24 (V.ref (List.length h) [] 24)).bind fun t35_7=>(Aa h_3 26 (V.ref (List.length (h++[(V.weak t0)])) [] 26)).bind fun t36_8=>(fA 33 28 1 (V.ref (List.length ((h++[(V.weak t0)])++[t1])) [] 33)).bind fun t37_9=>(BA h_3 28 t37_9).bind fun t38_10=>(DK t38_10).bind fun t39_11=>(Cl 10 (AL h_3 [t35_7,t36_8,t39_11]) []).bind fun r_12=>(FQ r_12.1 0).bind fun t41_13=>(ext r_12.1 1).bind fun t42_14=>(Cc (BK 32) 33 (h_3++[(V.agg 32 [(V.int .i64 0),(V.lst 4 .nil []),(V.lst 55 .nil []),(V.lst 58 .nil []),(V.lst 108 .nil [])])]) (V.ref (List.length h_3) [] 33) t41_13).bind fun h_15=>(fA 33 28 1 (V.ref (List.length ((h++[(V.weak t0)])++[t1])) [] 33)).bind fun t43_16=>(BA h_15 28 t43_16).bind fun t44_17=>Sz 80 t44_17 (V.ref (List.length h_3) [] 33) r_1.1 33 1 28 4 true h_15 fun h_24=>(BA h_24 33 (V.ref (List.length h_3) [] 33)).bind fun t51_25=>(Cc (BK 32) 33 h_24 (V.ref (List.length (((h++[(V.weak t0)])++[t1])++[(V.weak t2)])) [] 33) t51_25).bind fun h_26=>(BA h_26 33 (V.ref (List.length (((h++[(V.weak t0)])++[t1])++[(V.weak t2)])) [] 33)).bind fun c_27=>if(List.all [(V.bool true),c_27] V.okE)=true then AV (List.length h) h_26 (V.tup [c_27,(V.bool true)])else none)) (fun(k_28:V→List V→Rv)=>(Cl 86 (AP [t3]) r_1.2).bind fun r_29=>(AO .neq r_29.1 (V.int .i64 0)).bind fun t17_30=>V.ite t17_30 (k_28 (V.bool true) r_29.2) ((fA 33 28 1 (V.ref (List.length ((h++[(V.weak t0)])++[t1])) [] 33)).bind fun t20_31=>(BA r_29.2 28 t20_31).bind fun t21_32=>(DK t21_32).bind fun t22_33=>(OW .u64 t22_33).bind fun t23_34=>(AO .geq r_1.1 t23_34).bind fun t24_35=>V.ite t24_35 (k_28 (V.bool true) r_29.2) ((fA 33 28 1 (V.ref (List.length ((h++[(V.weak t0)])++[t1])) [] 33)).bind fun t27_36=>(BA r_29.2 28 t27_36).bind fun t28_37=>(Di 4 t28_37 r_1.1).bind fun t30_38=>(Aa r_29.2 4 t30_38).bind fun t31_39=>k_28 t31_39 r_29.2)))else none else none else none:=
  AJu (by kernel_rfl)
end
section
open Go AM
abbrev ARN:V:= .agg 54 (List.replicate 32 (.int .u8 0))
abbrev zVd:V:= .agg 59 [.int .i64 0,.int .i64 0,.agg 56 [.int .i64 0,.int .i64 0,ARN,.lst 55 .nil []],.lst 108 .nil [],.lst 9 .nil []]
def P9:List UInt8:=[65,0]++(List.replicate 32 0++[0])++(List.replicate 32 0++[0])++[1,0]
theorem ARO (r0 r1:List UInt8) (k0 k1:List (List UInt8)):Cl 20 [vB ⟨0,[false,false],[r0,r1],[k0,k1],[]⟩,.int .i64 1] []=some (.tup [.str [69,1],.int .i64 0],[]):=DN.2 ⟨60,by kernel_rfl⟩
theorem ARP (r0 r1:List UInt8) (k0 k1:List (List UInt8)):Cl 17 [vB ⟨0,[false,false],[r0,r1],[k0,k1],[]⟩,.lst 60 .sh [zVd,zVd]] []=some (.tup [.str P9,.int .i64 0],[]):=DN.2 ⟨60,by kernel_rfl⟩
def j0:Job:=⟨[109,97,120],0,2⟩
def g0:Grf:=⟨2,[]⟩
def D6 (g1:Bool) (r0 r1:List UInt8) (k0 k1:List (List UInt8)):Bk:=⟨0,[false,g1],[r0,r1],[k0,k1],[]⟩
def bk1 (g1:Bool):Bk:=⟨1,[false,g1],[List.replicate 32 0,List.replicate 32 0],[[],[]],[]⟩
abbrev YK:V:=Jc .nil .nil .nil .nil zB
theorem ARQ (g1:Bool) (r0 r1 p0 p1:List UInt8) (k0 k1 q0 q1:List (List UInt8)):Cl 56 [vJ j0,vB (D6 g1 r0 r1 k0 k1),CQ 5] [vG .sh g0,vJ j0,vB (D6 g1 r0 r1 k0 k1),YK,vB (D6 false p0 p1 q0 q1),BG P9.tail 0,YK]=some (.tup [vB (bk1 g1),.bool true],[vG .sh g0,vJ j0,vB (D6 g1 r0 r1 k0 k1),YK,vB (D6 false p0 p1 q0 q1),BG [] 0,YK]):=DN.2 ⟨60,by kernel_rfl⟩
theorem ARR (a b:Bool):Cl 80 [.lst 4 .sh [.bool a,.bool b]] []=some (.lst 4 .own [.bool a,.bool b],[]):=DN.2 ⟨60,by kernel_rfl⟩
theorem AO1:EG g0 j0 2=true:=by decide+kernel
theorem nb0:∃p0 p1 q0 q1,Bz g0 j0 2=D6 false p0 p1 q0 q1:=⟨vrootB (Gg g0 j0 2 0),vrootB (Gg g0 j0 2 1),(Gg g0 j0 2 0).map vtxB,(Gg g0 j0 2 1).map vtxB,by simp[Bz,D6,List.range_succ,List.replicate]⟩
theorem ARS (h0 h1 h2 h3 h4 h5 h6 h7 h8 h9 h10 x0 x2 x3 x4:V) (k:List V→Rv):
 Sz 80 (.lst 4 .sh [.bool false,.bool false]) (.ref 11 [] 33) (.int .u64 1) 33 1 28 4 true [h0,h1,h2,h3,h4,h5,h6,h7,h8,h9,h10,.agg Lr [x0,.lst 4 .sh [.bool false,.bool false],x2,x3,x4]] k=
  k [h0,h1,h2,h3,h4,h5,h6,h7,h8,h9,h10,.agg Lr [x0,.lst 4 .own [.bool false,.bool true],x2,x3,x4]]:=by
 unfold Sz
 rw[if_pos (by kernel_rfl),show AL _ [V.lst 4 .sh [.bool false,.bool false]]=[V.lst 4 .sh [.bool false,.bool false]]from rfl,ARR]
 rfl
end
section
open Go AM
theorem XU {l:List Bool} (hl:l.length≤1000000) (hn:0<l.length):Cl 80 [.lst 4 .sh (l.map V.bool)] []=some (.lst 4 .own (l.map V.bool),[]):=by
 have ap:∀h:List V,G6 4 AM.tyB false h (.lst 4 .own []) (.lst 4 .sh (l.map V.bool))=some (.lst 4 .own ([]++l.map V.bool)):=fun h=>
  Eg (V.PFL _ (FK l)).clean (Sm l) (by simp;omega) _ _ _
 have en:IA .eql (.lst 4 .sh (l.map V.bool)) (.lst 4 .nil [])=some (.bool false):=by
  cases l with
  |nil=>simp at hn
  |cons=>rfl
 rw[ALF]
 simp(disch:=first|assumption|omega|(with_reducible rfl)|(simp only[go_sem];done)|(simp only[go_sem];omega)|fail) only[↓reduceIte,↓AA,Nat.reduceAdd,go_sem,ap,en]
theorem S9:∀l:List Bool,AM.boolsOf (l.map V.bool)=some l
 |[]=>rfl
 |b::l=>by simp[AM.boolsOf,S9 l]
theorem Md:∀(n:Nat) (l:List Bool),Ae n (l.map V.bool)=true
 |_,[]=>rfl
 |n,x::l=>by simp only[List.map_cons,Ae,Md n l];rfl
theorem AF4 {l:List Bool} (hl:l.length≤1000000) {w:Nat} (hw:w<l.length) {h:List V} {id:Nat} {x0 x1 x2 x3 x4:V} (hh:h[id]?=some (.agg Lr [x0,x1,x2,x3,x4])) (k:List V→Rv):
 Sz 80 (.lst 4 .sh (l.map V.bool)) (.ref id [] 33) (.int .u64 (w:Int)) 33 1 28 4 true h k=
  k (h.set id (.agg Lr [x0,.lst 4 .own ((l.set w true).map V.bool),x2,x3,x4])):=by
 have er:AL h [V.lst 4 .sh (l.map V.bool)]=[V.lst 4 .sh (l.map V.bool)]:=by
  rw[AL,(V.PF (.lst 4 .sh (l.map V.bool)) (by simp only[V.pl,FK])).reify h];rfl
 have fa:A7 P 33 1 (.ref id [] 33)=some (.ref id [1] 28):=FU ANh rfl (by rw[ALY];decide) id []
 have st:Ec P h 28 (.ref id [1] 28) (.lst 4 .own ((l.set w true).map V.bool))=some (h.set id (.agg Lr [x0,.lst 4 .own ((l.set w true).map V.bool),x2,x3,x4])):=
  G9 (i:=1) hh rfl (by simp[BN,ANf]) (by simp only[V.under,Md])
 have ty:BN P 4 (.bool true)=true:=by simp[BN,K_4,BO,AJw]
 unfold Sz
 rw[if_pos (by kernel_rfl),er]
 refine(AB (XU hl (by omega)) _).trans ?_
 show((AM.boolsOf (l.map V.bool)).bind fun bs=>_)=_
 refine(AB (S9 l) _).trans ((AB fa _).trans ?_)
 rw[if_pos (by simp only[Int.natCast_nonneg,decide_true,Int.toNat_natCast,ty,Bool.and_true,Bool.true_and];rw[Nat.blt_eq];exact hw)]
 refine(AB st _).trans ?_
 rfl
def evB (g:Grf) (j:Job) (b:Bk) (s:List UInt8):Option Bk:=
 if EM (AU s 0).2.1 (AU s 0).2.2=0∧b.gone[(AU s 0).1]?=some false then some {Bz g j b.gone.length with gone:=b.gone.set (AU s 0).1 true}else none
def opB (o:Option Bk):Bk:=o.getD zB
abbrev H8:V:= .agg Lr [.int .i64 0,.lst 4 .nil [],.lst 55 .nil [],.lst 58 .nil [],.lst 108 .nil []]
theorem AF5 {g:Grf} (hl:g.es.length<1000000) {j:Job} {b:Bk} (hg:EG g j (b.gone.length:Int)=true) {s:List UInt8} (hs:s.length<4611686018427387904) (a0 a1 a2 a3 a4 a6:V):
 Cl 57 [vG .sh g,vJ j,vB b,CQ 5] [a0,a1,a2,a3,a4,BG s 0,a6]=some (.tup [vB (opB (evB g j b s)),.bool (evB g j b s).isSome],[a0,a1,a2,a3,a4,BG (AU s 0).2.1 (AU s 0).2.2,a6]):=by
 have hN:Cl 10 [vG .sh g,vJ j,.int .i64 (b.gone.length:Int)] []=some (.tup [vB (Bz g j b.gone.length),.int .i64 0],[]):=by
  have h:=Ls hl j (b.gone.length:Int)
  rw[if_pos hg]at h
  rw[h];rfl
 have hlen:b.gone.length≤64:=by
  simp only[EG,Bool.and_eq_true,decide_eq_true_eq]at hg;omega
 have n55:Cl 55 [CQ 5] [a0,a1,a2,a3,a4,BG s 0,a6,vG .sh g,vJ j,vB b,H8]=some (.int .u64 ((AU s 0).1:Int),[a0,a1,a2,a3,a4,BG (AU s 0).2.1 (AU s 0).2.2,a6,vG .sh g,vJ j,vB b,H8]):=He (id:=5) rfl hs
 have n86:Cl 86 [CQ 5] [a0,a1,a2,a3,a4,BG (AU s 0).2.1 (AU s 0).2.2,a6,vG .sh g,vJ j,vB b,H8]=some (.int .i64 (EM (AU s 0).2.1 (AU s 0).2.2:Int),[a0,a1,a2,a3,a4,BG (AU s 0).2.1 (AU s 0).2.2,a6,vG .sh g,vJ j,vB b,H8]):=Uu (id:=5) rfl
 rw[evB]
 generalize (AU s 0).1=w at*
 generalize EM (AU s 0).2.1 (AU s 0).2.2=e at*
 generalize BG (AU s 0).2.1 (AU s 0).2.2=i2 at*
 generalize BG s 0=i1 at*
 by_cases he:e=0
 ·subst he
  by_cases hw:w<b.gone.length
  ·have hx:(b.gone.map V.bool)[w]?=some (.bool b.gone[w]):=by simp[hw]
   cases hgw:b.gone[w]with
   |true=>
    rw[if_neg (by rw[List.getElem?_eq_getElem hw,hgw];simp),P8]
    rw[hgw]at hx
    simp only[zB,opB,Option.getD_none,Option.isSome_none,List.map_nil]
    simp(disch:=first|assumption|omega|(with_reducible rfl)|(simp only[go_sem];done)|(simp only[go_sem];omega)|fail) only[↓reduceIte,↓AA,Nat.reduceAdd,go_sem,n55,n86,hx]
    rfl
   |false=>
    rw[if_pos ⟨rfl,by rw[List.getElem?_eq_getElem hw,hgw]⟩,P8]
    rw[hgw]at hx
    simp only[zB,opB,Option.getD_some,Option.isSome_some,List.map_nil]
    have pq:=fun h0 h1 h2 h3 h4 h5 h6 h7 h8 h9 h10 x0 x1 x2 x3 x4 (k:List V→Rv)=>AF4 (l:=b.gone) (by omega) hw (h:=[h0,h1,h2,h3,h4,h5,h6,h7,h8,h9,h10,.agg Lr [x0,x1,x2,x3,x4]]) (id:=11) rfl k
    generalize Bz g j b.gone.length=nb at*
    simp(disch:=first|assumption|omega|(with_reducible rfl)|(simp only[go_sem];done)|(simp only[go_sem];omega)|fail) only[↓reduceIte,↓AA,Nat.reduceAdd,go_sem,n55,n86,hx,hN]
    refine(pq _ _ _ _ _ _ _ _ _ _ _ _ _ _ _ _ _).trans ?_
    simp only[List.set_cons_succ,List.set_cons_zero]
    simp(disch:=first|assumption|omega|(with_reducible rfl)|(simp only[go_sem];done)|(simp only[go_sem];omega)|fail) only[↓reduceIte,↓AA,Nat.reduceAdd,go_sem]
  ·rw[if_neg (by rw[List.getElem?_eq_none (by omega)];simp),P8]
   simp only[zB,opB,Option.getD_none,Option.isSome_none,List.map_nil]
   simp(disch:=first|assumption|omega|(with_reducible rfl)|(simp only[go_sem];done)|(simp only[go_sem];omega)|fail) only[↓reduceIte,↓AA,Nat.reduceAdd,go_sem,n55,n86]
   rfl
 ·rw[if_neg (fun h=>he h.1),P8]
  simp only[zB,opB,Option.getD_none,Option.isSome_none,List.map_nil]
  simp(disch:=first|assumption|omega|(with_reducible rfl)|(simp only[go_sem];done)|(simp only[go_sem];omega)|fail) only[↓reduceIte,↓AA,Nat.reduceAdd,go_sem,n55,n86]
  rfl
end
section
open Go AM
theorem AF6 {b:Bk} (hb:BkOk b):∀(n i:Nat) (f:Fl),(f= .own∨f= .nil)→i+n=b.known.length→
 UJ (.ref 0 [] 33) (.ref 1 [] 33) (.ref 2 [] 33) (.int .i64 (i:Int)) [vB b,H8,.agg Lr [.int .i64 b.step,.lst 4 .sh (b.gone.map V.bool),.lst 55 .sh (b.roots.map Au),.lst 58 f ((b.known.take i).map sS),.lst 108 .sh (b.sent.map Ac)]]=some (vB b,[]):=by
 have hk:=hb.known
 intro n
 induction n with
 |zero=>
  intro i f hf hi
  rw[List.take_of_length_le (by omega),RS]
  rcases hf with rfl|rfl
  all_goals simp(disch:=first|assumption|omega|(with_reducible rfl)|(simp only[go_sem];done)|(simp only[go_sem];omega)|fail) only[↓reduceIte,↓AA,Nat.reduceAdd,go_sem]
  all_goals rfl
 |succ n ih=>
  intro i f hf hi
  have h:i<b.known.length:=by omega
  have hx:(b.known.map sS)[i]?=some (sS b.known[i]):=by simp[h]
  have he:=hb.each _ (List.getElem_mem h)
  have ih':=ih (i+1) .own (Or.inl rfl) (by omega)
  have hle:(b.known.take i).length≤1000000:=by rw[List.length_take];omega
  rw[←List.take_append_getElem h,List.map_append]at ih'
  clear ih
  generalize b.known.take i=done at*
  generalize b.known[i]=x at*
  simp only[List.map_cons,List.map_nil]at ih'
  have t2:∀(a z x0 x1 x2 x4:V) (rs:List V) (f:Fl),Bd [a,z,.agg Lr [x0,x1,x2,.lst 58 f rs,x4]] 30 (.ref 2 [3] 30)=some (.lst 58 f rs,[a,z,.agg Lr [x0,x1,x2,.lst 58 f.wk rs,x4]]):=
   fun a z x0 x1 x2 x4 rs f=>IY (h:=[a,z,.agg Lr [x0,x1,x2,.lst 58 f rs,x4]]) (id:=2) rfl rfl
  have ap:∀h:List V,G6 9 AM.tyS false h (.lst 9 .own []) (sS x)=some (.lst 9 .own ([]++x.map V.str)):=fun h=>
   Eg (V.PFL _ (KT x)).clean (all_map (fun _=>rfl) _) (by simp;omega) _ _ _
  have w1:V.weak (.lst 9 .own ([]++x.map V.str))=sS x:=by rw[List.nil_append];rfl
  have lw1:Dq true [.rop 58 (sS x)]=true:=rfl
  have lw2:Dq true [.lst 9 .own [],sS x]=true:=rfl
  have sb3:Ey (.ref 2 [] 33) (.ref 2 [3] 30)=true:=rfl
  have sb0:Ey (.ref 0 [] 33) (.ref 0 [3] 30)=true:=rfl
  have df:MP (.ref 2 [] 33) (.ref 0 [] 33)=true:=rfl
  rw[←ih',RS]
  rcases hf with rfl|rfl
  all_goals simp(disch:=first|assumption|omega|(with_reducible rfl)|(simp only[go_sem];done)|(simp only[go_sem];omega)|fail) only[↓reduceIte,↓AA,Nat.reduceAdd,go_sem,hx,t2,ap,w1,lw1,lw2,sb3,sb0,df,EN,EO]
  all_goals rfl
theorem XV {b:Bk} (hb:BkOk b):Cl 18 [vB b] []=some (vB b,[]):=by
 have h0:=AF6 hb b.known.length 0 .nil (Or.inr rfl) (by omega)
 rw[List.take_zero,List.map_nil]at h0
 have h1:=hb.gone;have h2:=hb.roots;have h3:=hb.sent
 rw[←h0,AKg]
 have lw1:∀(t:TypeId) (xs:List V),Dq true [.lst t .own [],.lst t .sh xs]=true:=fun _ _=>rfl
 have ap1:∀h:List V,G6 4 AM.tyB false h (.lst 4 .own []) (.lst 4 .sh (b.gone.map V.bool))=some (.lst 4 .own ([]++b.gone.map V.bool)):=fun h=>
  Eg (V.PFL _ (FK b.gone)).clean (Sm b.gone) (by simp;omega) _ _ _
 have ap2:∀h:List V,G6 55 (BK 54) false h (.lst 55 .own []) (.lst 55 .sh (b.roots.map Au))=some (.lst 55 .own ([]++b.roots.map Au)):=fun h=>
  Eg (V.PFL _ (EZ b.roots)).clean (all_map (fun _=>Hu ..) _) (by simp;omega) _ _ _
 have ap3:∀h:List V,G6 108 (BK 107) false h (.lst 108 .own []) (.lst 108 .sh (b.sent.map Ac))=some (.lst 108 .own ([]++b.sent.map Ac)):=fun h=>
  Eg (V.PFL _ (Fb b.sent)).clean (XM _) (by simp;omega) _ _ _
 simp(disch:=first|assumption|omega|(with_reducible rfl)|(simp only[go_sem];done)|(simp only[go_sem];omega)|fail) only[↓reduceIte,↓AA,Nat.reduceAdd,go_sem,ap1,ap2,ap3,lw1]
 rfl
def JU (b:Bk) (w:Int):Bool:=decide (0≤w)&&decide (b.gone[w.toNat]?=some false)
theorem Lu {b:Bk} (hb:b.gone.length≤1000000) (w:Int):Cl 20 [vB b,.int .i64 w] []=some (.tup [.str (if JU b w=true then Aq 69++Aq w.toNat else[]),.int .i64 (if JU b w=true then 0 else 170)],[]):=by
 by_cases h0:w<0
 ·have hm:JU b w=false:=by rw[JU,decide_eq_false (by omega)];rfl
  rw[hm,UK]
  simp(disch:=first|assumption|omega|(with_reducible rfl)|(simp only[go_sem];done)|(simp only[go_sem];omega)|fail) only[↓reduceIte,↓AA,Nat.reduceAdd,go_sem]
  rfl
 obtain⟨v,rfl⟩:=Int.eq_ofNat_of_zero_le (show 0≤w by omega)
 by_cases hw:v<b.gone.length
 ·have hx:(b.gone.map V.bool)[v]?=some (.bool b.gone[v]):=by simp[hw]
  cases hg:b.gone[v]with
  |true=>
   have hm:JU b (v:Int)=false:=by rw[JU,Int.toNat_natCast,List.getElem?_eq_getElem hw,hg];simp
   rw[hg]at hx
   rw[hm,UK]
   simp(disch:=first|assumption|omega|(with_reducible rfl)|(simp only[go_sem];done)|(simp only[go_sem];omega)|fail) only[↓reduceIte,↓AA,Nat.reduceAdd,go_sem,hx]
   rfl
  |false=>
   have hm:JU b (v:Int)=true:=by rw[JU,Int.toNat_natCast,List.getElem?_eq_getElem hw,hg];simp
   rw[hg]at hx
   have a:=Af 10 69
   have n1:=Gp [vB b]
   have n2:Cl 46 [Bh 1,.int .u64 69] [vB b,BD .nil []]=some (.tup [],[vB b,BD .own ([]++Aq 69)]):=Df (n:=69) (id:=1) rfl (Or.inr rfl) (by omega) (by simp)
   have n3:Cl 46 [Bh 1,.int .u64 (v:Int)] [vB b,BD .own ([]++Aq 69)]=some (.tup [],[vB b,BD .own ([]++Aq 69++Aq v)]):=Df (id:=1) rfl (Or.inl rfl) (by omega) (by simp only[Aq,List.length_append,List.length_nil];omega)
   have n4:Cl 50 [Bh 1] [vB b,BD .own ([]++Aq 69++Aq v)]=some (.str ([]++Aq 69++Aq v),[vB b,BD .own ([]++Aq 69++Aq v)]):=FY (id:=1) rfl
   rw[List.nil_append]at n2 n3 n4
   rw[hm,UK]
   simp only[Bh,List.length_cons,List.length_nil,if_true,Int.toNat_natCast]at n1 n2 n3 n4⊢
   generalize Aq 69=c at*
   generalize Aq v=d at*
   have nr:∀k x,AP [V.ref 1 [] 125,.int k x]=[V.ref 1 [] 125,.int k x]:=fun _ _=>rfl
   have nr1:AP [V.ref 1 [] 125]=[V.ref 1 [] 125]:=rfl
   simp(disch:=first|assumption|omega|(with_reducible rfl)|(simp only[go_sem];done)|(simp only[go_sem];omega)|fail) only[↓reduceIte,↓AA,Nat.reduceAdd,go_sem,hx,n1,n2,n3,n4,nr,nr1]
 ·have hm:JU b (v:Int)=false:=by rw[JU,Int.toNat_natCast,List.getElem?_eq_none (by omega)];simp
  rw[hm,UK]
  simp(disch:=first|assumption|omega|(with_reducible rfl)|(simp only[go_sem];done)|(simp only[go_sem];omega)|fail) only[↓reduceIte,↓AA,Nat.reduceAdd,go_sem]
  rfl
set_option maxHeartbeats 4000000 in
theorem TA {g:Grf} (hl:g.es.length<1000000) {j:Job} {b:Bk} (hg:EG g j (b.gone.length:Int)=true) (hr:b.roots.length=b.gone.length) {rec s:List UInt8} (hrec:rec.length<4611686018427387904) (h69:AU rec 0=(69,s,0)) (hs:s.length<4611686018427387904):
 Cl 23 [vG .sh g,vJ j,vB b,.str rec] []=some (.tup [vB (opB (evB g j b s)),.int .i64 (if(evB g j b s).isSome=true then 0 else 171)],[]):=by
 have hN:Cl 10 [vG .sh g,vJ j,.int .i64 (b.gone.length:Int)] []=some (.tup [vB (Bz g j b.gone.length),.int .i64 0],[]):=by
  have h:=Ls hl j (b.gone.length:Int)
  rw[if_pos hg]at h
  rw[h];rfl
 have hlen:b.gone.length≤64:=by
  simp only[EG,Bool.and_eq_true,decide_eq_true_eq]at hg;omega
 have n54:=FV [vG .sh g,vJ j,vB b,H8,vB (Bz g j b.gone.length)] rec
 have n55:Cl 55 [CQ 5] [vG .sh g,vJ j,vB b,H8,vB (Bz g j b.gone.length),BG rec 0,H8]=some (.int .u64 69,[vG .sh g,vJ j,vB b,H8,vB (Bz g j b.gone.length),BG s 0,H8]):=by
  have:=He (h:=[vG .sh g,vJ j,vB b,H8,vB (Bz g j b.gone.length),BG rec 0,H8]) (id:=5) rfl hrec
  rw[h69]at this;exact this
 have n57:=AF5 hl hg hs (vG .sh g) (vJ j) (vB b) H8 (vB (Bz g j b.gone.length)) H8
 rw[La]
 generalize BG (AU s 0).2.1 (AU s 0).2.2=i2 at*
 generalize Bz g j b.gone.length=nb at*
 simp only[List.length_cons,List.length_nil,Nat.zero_add,Nat.reduceAdd]at n54
 cases he:evB g j b s with
 |none=>
  rw[he]at n57
  simp only[opB,Option.getD_none,Option.isSome_none,zB,List.map_nil]at n57⊢
  simp(disch:=first|assumption|omega|(with_reducible rfl)|(simp only[go_sem];done)|(simp only[go_sem];omega)|fail) only[↓reduceIte,↓AA,Nat.reduceAdd,go_sem,n54,n55,n57,hN,hr]
  rfl
 |some c=>
  rw[he]at n57
  simp only[opB,Option.getD_some,Option.isSome_some]at n57⊢
  simp(disch:=first|assumption|omega|(with_reducible rfl)|(simp only[go_sem];done)|(simp only[go_sem];omega)|fail) only[↓reduceIte,↓AA,Nat.reduceAdd,go_sem,n54,n55,n57,hN,hr]
end
section
open Go AM
instance:Inhabited Msg:=⟨⟨0,0,0⟩⟩
def rowM (d:Array Msg):V:= .row 108 (d.toList.map Ac)
def winM (id n:Nat):V:= .win id [] 0 n 108
abbrev cm:V:= .clo 128 []
def ABX (a b:Int):Int:=if a<b then -1 else if b<a then 1 else 0
def or3 (a b c:Int):Int:=if a≠0 then a else if b≠0 then b else c
def AO2 (x y:Msg):Int:=or3 (ABX x.to y.to) (ABX x.fr y.fr) (ABX x.val y.val)
def YL (x y:Msg):Bool:=decide (AO2 x y<0)
theorem AIp {B:Type} {k:IntKind} {a b:Int} (h:b<a) (K:V→Option B):(AO .gtr (.int k a) (.int k b)).bind K=K (.bool true):=by
 rw[b_gtr,Option.bind_some,decide_eq_true h]
theorem AIq {B:Type} {k:IntKind} {a b:Int} (h:¬b<a) (K:V→Option B):(AO .gtr (.int k a) (.int k b)).bind K=K (.bool false):=by
 rw[b_gtr,Option.bind_some,decide_eq_false h]
theorem AO3 {B:Type} (b:Bool) (K:V→Option B):(un .not (.bool b)).bind K=K (.bool (!b)):=rfl
theorem TB (m:Msg):BN P 108 (Ac m)=true:=by simp[BN,Ru,Ac]
theorem AO4 (n:Nat) (m:Msg):(Ac m).under n=true:=rfl
theorem fM {B:Type} {id:Nat} (j:Nat) {u:TypeId} {p:List Nat} (hj:[3,3,2][j]?=some u) (hu:P.cellsOf u≠0) (K:V→Option B):(A7 P 108 j (.ref id p 108)).bind K=K (.ref id (p++[j]) u):=
 AB (FU (P:=P) Ru hj hu id p) K
theorem AMJ {B:Type} {h:List V} {id:Nat} {m:Msg} {x:Int} (j:Nat) (u:TypeId) (hj:[3,3,2][j]?=some u) (hu:P.cellsOf u≠0) (hh:h[id]?=some (Ac m)) (hx:[V.int .i64 m.fr,V.int .i64 m.to,V.int .i64 m.val][j]?=some (.int .i64 x)) (K:V→Option B):
 (A7 P 108 j (.ref id [] 108)).bind (fun t=>(Aa h u t).bind K)=K (.int .i64 x):=by
 refine(fM j hj hu _).trans ?_
 exact AB (BR (Jq hh hx)) K
theorem ABY {B:Type} {h:List V} {id:Nat} {m:Msg} (hh:h[id]?=some (Ac m)) (K:V→Option B):(A7 P 108 0 (.ref id [] 108)).bind (fun t=>(Aa h 3 t).bind K)=K (.int .i64 m.fr):=AMJ 0 _ rfl (by rw[ABB];decide) hh rfl K
theorem ABZ {B:Type} {h:List V} {id:Nat} {m:Msg} (hh:h[id]?=some (Ac m)) (K:V→Option B):(A7 P 108 1 (.ref id [] 108)).bind (fun t=>(Aa h 3 t).bind K)=K (.int .i64 m.to):=AMJ 1 _ rfl (by rw[ABB];decide) hh rfl K
theorem Y5 {B:Type} {h:List V} {id:Nat} {m:Msg} (hh:h[id]?=some (Ac m)) (K:V→Option B):(A7 P 108 2 (.ref id [] 108)).bind (fun t=>(Aa h 2 t).bind K)=K (.int .i64 m.val):=AMJ 2 _ rfl (by rw[ANd];decide) hh rfl K
theorem VD {B:Type} (b:Bool) (x y:Option B):V.ite (.bool b) x y=if b=true then x else y:=by cases b<;>rfl
theorem AMK {B:Type} (a b:V) (K:V→Option B):(ext (.tup [a,b]) 0).bind K=K a:=rfl
theorem AML {B:Type} (a b:V) (K:V→Option B):(ext (.tup [a,b]) 1).bind K=K b:=rfl
theorem cmp_neg (x y:Msg):YL x y=true↔(x.to<y.to∨(x.to=y.to∧(x.fr<y.fr∨(x.fr=y.fr∧x.val<y.val)))):=by
 simp only[YL,AO2,or3,ABX,decide_eq_true_eq]
 rcases Int.lt_trichotomy x.to y.to with h|h|h
 ·simp[h]
 ·rcases Int.lt_trichotomy x.fr y.fr with g|g|g
  ·simp[h,g]
  ·rcases Int.lt_trichotomy x.val y.val with k|k|k
   ·simp[h,g,k]
   ·simp[h,g,k]
   ·have n:¬x.val<y.val:=by omega
    simp[h,g,k,n]
  ·have n:¬x.fr<y.fr:=by omega
   have n2:¬x.fr=y.fr:=by omega
   simp[h,g,n,n2]
 ·have n:¬x.to<y.to:=by omega
  have n2:¬x.to=y.to:=by omega
  simp[h,n,n2]
theorem KU (x y:Msg):YL x y=false↔¬(x.to<y.to∨(x.to=y.to∧(x.fr<y.fr∨(x.fr=y.fr∧x.val<y.val)))):=by
 rw[←cmp_neg];simp
theorem VE:Sort.SWO YL where
 irrefl x:=by rw[KU];omega
 trans x y z:=by simp only[cmp_neg];omega
 ntrans x y z:=by simp only[KU];omega
theorem AMM (x y:Msg) (h1:YL x y=false) (h2:YL y x=false):x=y:=by
 rw[KU]at h1 h2
 cases x;cases y
 simp only[Msg.mk.injEq]
 simp only[]at h1 h2
 omega
def H9 (f:Fl) (l:List Msg):V:= .lst 108 f (l.map Ac)
def Bl (l:List Msg):List Msg:=l.mergeSort (fun x y=> !YL y x)
theorem QA:∀l:List Msg,AY (l.map Ac)=true
 |[]=>rfl
 |x::l=>by simp only[List.map_cons,AY,QA l];rfl
theorem ABa:∀l:List Msg,AP (l.map Ac)=l.map Ac
 |[]=>rfl
 |x::l=>by simp only[List.map_cons,AP,ABa l];rfl
theorem XW (l:List Msg):Hr P 108 (l.map Ac)=true:=by simp[Hr,TB]
def OG (m:Msg):Int×Int×Int:=(m.fr,m.to,m.val)
theorem Yx (x y:Msg):decide (Qn 2 (OG x) (OG y)<0)=YL x y:=by
 have hr:∀z,OQ 2 z=true:=fun _=>rfl
 rw[Bool.eq_iff_iff,decide_eq_true_eq,cmp_neg]
 unfold Qn cl3
 rw[if_pos (hr _),if_pos (hr _),AFd (by decide)]
 simp only[OG]
theorem AIr (x y:Int×Int×Int) (h1:decide (Qn 2 x y<0)=false) (h2:decide (Qn 2 y x<0)=false):x=y:=by
 have hr:∀z,OQ 2 z=true:=fun _=>rfl
 rw[decide_eq_false_iff_not]at h1 h2
 unfold Qn cl3 at h1 h2
 rw[if_pos (hr _),if_pos (hr _),AFd (by decide)]at h1 h2
 obtain⟨a,b,c⟩:=x
 obtain⟨a',b',c'⟩:=y
 simp only at h1 h2
 rw[Prod.mk.injEq,Prod.mk.injEq]
 omega
theorem AMN (l:List Msg):EX 2 (l.map OG)=(Bl l).map OG:=by
 have h:=XA 2 (l.map OG)
 have e:=Sort.sorted_unique_holds (OE 2) AIr _ _ h.1 h.2
 simp only[List.toList_toArray]at e
 rw[e,Bl]
 refine(List.map_mergeSort fun a _ b _=> ?_).symm
 rw[←Yx]
theorem AF7:∀l:List Msg,(l.map Ac).all (i3t 107)=true
 |[]=>rfl
 |x::l=>by rw[List.map_cons,List.all_cons,AF7 l];rfl
theorem AKC:∀l:List Msg,(l.map Ac).all (fun x=>OQ 2 (t3 x))=true
 |[]=>rfl
 |x::l=>by rw[List.map_cons,List.all_cons,AKC l];rfl
theorem AO5 (l:List Msg):(l.map Ac).map t3=l.map OG:=by rw[List.map_map];rfl
theorem AO6 (l:List Msg):(l.map OG).map (YJ 107)=l.map Ac:=by rw[List.map_map];rfl
theorem sort_aps {h:List V} {id:Nat} {l:List Msg} (hh:h[id]?=some (rowM l.toArray)) (hl:l.length≤1000000):
 aps 2000128 108 [winM id l.length,cm] h=some (.tup [],h.set id (rowM (Bl l).toArray)):=by
 have hd:2000128/1000000=2:=rfl
 have tg:(l.map Ac).all (i3t (Tz (l.map Ac)))=true:=by
  cases l with
  |nil=>rfl
  |cons x l=>exact AF7 (x::l)
 have mk:((EX 2 (l.map OG)).map (YJ (Tz (l.map Ac))))=(Bl l).map Ac:=by
  rw[AMN]
  cases l with
  |nil=>rw[show Bl []=[]from by simp[Bl]];rfl
  |cons x l=>exact AO6 _
 simp only[aps,winM,rowM]at hh⊢
 have e1:Nat.beq l.length (l.map Ac).length=true:=by simp
 have e2:Nat.ble (l.map Ac).length Dh=true:=by simp[Dh,Nat.ble_eq];omega
 simp only[hh,hd]
 rw[if_pos (by simp only[tg,AKC,e1,e2];rfl),AO5,mk]
theorem AMO {B:Type} (f:Fl) (l:List Msg) (hl:l.length≤1000000) (k:V×List V→Option B):
 ((EK P 31 [] (.lst 108 .nil []) (H9 f l)).bind fun v=>(Dz [] v).bind k)=k (winM 0 l.length,[rowM l.toArray]):=by
 cases l with
 |nil=>
  refine(AB (show EK P 31 [] (.lst 108 .nil []) (H9 f [])=some (.lst 108 .nil [])by simp[EK,PS,H9,Ah,AY,Hr,Dh,Dp,Ur]) _).trans ?_
  rfl
 |cons x t=>
  refine(AB (AFR PS (Or.inr rfl) (y:=H9 f (x::t)) (ys:=(x::t).map Ac) rfl (QA _) (XW _) (by simp;simp at hl;omega) Ur (fun _=>rfl)) _).trans ?_
  rw[List.nil_append]
  exact AB (show Dz [] (.lst 108 .own ((x::t).map Ac))=some (winM 0 (x::t).length,[rowM (x::t).toArray])by simp[Dz,winM,rowM]) _
theorem Y6 (l:List Msg):(Bl l).length=l.length:=by rw[Bl,List.length_mergeSort]
theorem ABb (f:Fl) (l:List Msg) (hl:l.length≤1000000):Cl 106 [H9 f l] []=some (H9 .sh (Bl l),[]):=by
 rw[AHZ,AAE,AAF]
 refine(AMO f l hl _).trans ?_
 rw[AAG]
 refine(AB (sort_aps (h:=[rowM l.toArray]) (id:=0) rfl hl) _).trans ?_
 rw[AAH]
 have c:Ah [rowM (Bl l).toArray] (winM 0 l.length)=some ((Bl l).map Ac):=by
  simp[Ah,winM,rd,V.at,V.items,rowM]
  rw[←Y6 l];exact List.take_of_length_le (by simp)
 have u:(winM 0 l.length).unmut [rowM (Bl l).toArray]= .lst 108 .sh ((Bl l).map Ac):=by
  rw[winM]at c⊢
  simp only[V.unmut,c,QA,ABa,if_true]
 show AV 0 [rowM (Bl l).toArray] (winM 0 l.length)=_
 simp only[AV,u]
 rfl
end
section
open Go AM
def Y7 (m:Msg):Prop:=I64 m.fr∧I64 m.to∧I64 m.val
def rowB (m:Msg):List UInt8:=if m.fr<0∨m.to<0 then[]else Aq m.fr.toNat++Aq m.to.toNat++Aq (Qq m.val)
theorem KW (m:Msg):(rowB m).length≤30:=by
 have a:=Af 10 m.fr.toNat;have b:=Af 10 m.to.toNat;have c:=Af 10 (Qq m.val)
 simp only[rowB];split
 ·simp
 ·simp only[List.length_append,Aq];omega
theorem TD (h:List V):∀l:List Msg,AL h (l.map Ac)=l.map Ac
 |[]=>rfl
 |x::l=>by simp only[List.map_cons,AL,TD h l];rfl
theorem AF8 (h:List V) (f:Fl) (l:List Msg):∃g,V.reify h (H9 f l)=H9 g l:=by
 cases f<;>simp only[H9,V.reify,TD]<;>exact⟨_,rfl⟩
theorem Gs (h:List V) (f:Fl) (l:List Msg):∃g,AL h [H9 f l]=[H9 g l]:=by
 obtain⟨g,hg⟩:=AF8 h f l;exact⟨g,by simp only[AL,hg]⟩
theorem AIs (f:Fl) (l:List Msg):∃g,(H9 f l).weak=H9 g l:=IJ
theorem AMP {m:Msg} (hm:Y7 m):Cl 107 [Ac m] []=some (.str (rowB m),[]):=by
 obtain⟨h1,h2,h3⟩:=hm
 have c1:(BN P 108 (Ac m)&&V.under (List.length ([]:List V)) (Ac m))=true:=by rw[TB,AO4];rfl
 have g0:([]++[Ac m]:List V)[0]?=some (Ac m):=rfl
 rw[AHa,AAI,if_pos c1,AAJ]
 refine(ABY g0 _).trans ?_
 by_cases hf:m.fr<0
 ·refine(Jr hf _).trans ?_
  rw[BP,BP,Uh,rowB,if_pos (Or.inl hf)];rfl
 refine(Js hf _).trans ?_
 rw[BQ]
 refine(ABZ g0 _).trans ?_
 by_cases ht:m.to<0
 ·refine(Jr ht _).trans ?_
  rw[BP,Uh,rowB,if_pos (Or.inr ht)];rfl
 refine(Js ht _).trans ?_
 rw[BQ,AAK]
 refine(AB (Gp _) _).trans ?_
 have g1:∀o:V,([]++[Ac m]++[o]:List V)[0]?=some (Ac m):=fun o=>rfl
 have o1:∀o:V,([]++[Ac m]++[o]:List V)[1]?=some o:=fun o=>rfl
 have st:∀o o':V,([]++[Ac m]++[o]:List V).set 1 o'=[]++[Ac m]++[o']:=fun o o'=>rfl
 have a:=Af 10 m.fr.toNat;have b:=Af 10 m.to.toNat;have c:=Af 10 (Qq m.val)
 have nr:∀(x:Int) (k:IntKind),AP [Bh ([]++[Ac m]:List V).length,.int k x]=[Bh 1,.int k x]:=fun x k=>rfl
 rw[AAL]
 refine(ABY (g1 _) _).trans<|(ABS (by omega) h1.2 _).trans ?_
 rw[nr]
 refine(AB (Df (o1 _) (Or.inr rfl) (by have:=h1.2;omega) (by simp)) _).trans ?_
 rw[st,AAM]
 refine(ABZ (g1 _) _).trans<|(ABS (by omega) h2.2 _).trans ?_
 rw[nr]
 refine(AB (Df (o1 _) (Or.inl rfl) (by have:=h2.2;omega) (by simp only[Aq,List.length_append,List.length_nil];omega)) _).trans ?_
 rw[st,AAN]
 refine(Y5 (g1 _) _).trans ?_
 rw[nr]
 refine(AB (SK (o1 _) (Or.inl rfl) h3.1 h3.2 (by simp only[Aq,List.length_append,List.length_nil];omega)) _).trans ?_
 rw[st,AAO]
 refine(AB (FY (o1 _)) _).trans ?_
 rw[N7,rowB,if_neg (by omega)]
 simp
theorem TF:∀(n:Nat) (l:List Msg),Ae n (l.map Ac)=true
 |_,[]=>rfl
 |n,x::l=>by simp only[List.map_cons,Ae,TF n l];rfl
theorem QB (n:Nat) (f:Fl) (l:List Msg):(H9 f l).under n=true:=by cases f<;>first|rfl|exact TF n l
theorem AF9 {l:List Msg} {i:Nat} (hi:i<l.length):(l.map Ac)[i]?=some (Ac l[i]):=by simp[hi]
theorem AIt (l:List Msg) (hl:∀m∈l,Y7 m) (hn:l.length≤1000000) (g:Fl):∀(n i:Nat) (f:Fl) (done:List (List UInt8)),i+n=l.length→OK f→done.length=i→
 Uc (sL f done) (H9 g l) (iv l.length) (iv i) []=some (sL .sh (done++(l.drop i).map rowB),[]):=by
 intro n
 induction n with
 |zero=>
  intro i f done hi hf hd
  rw[Ro,Yb]
  refine(Js (by omega) _).trans ?_
  rw[BQ,AEO,AL7 0 [] f (by rcases hf with rfl|rfl<;>(intro h;cases h)),List.drop_eq_nil_of_le (by omega)]
  simp
 |succ n ih=>
  intro i f done hi hf hd
  have hlt:i<l.length:=by omega
  rw[Ro,Yb]
  refine(Jr (by omega) _).trans ?_
  rw[BP,AEL]
  refine(ACG PS (AF9 hlt) _).trans<|(ldR _).trans ?_
  refine(AB (Ce (P:=P) (h:=[]++[zero P 108]) (id:=0) rfl (TB _) rfl) _).trans ?_
  rw[AEM]
  refine(AB (BR (v:=Ac l[i]) (Cm rfl)) _).trans ?_
  refine(AB (AMP (hl _ (List.getElem_mem hlt))) _).trans ?_
  refine(AOl hf (by omega) _ _).trans ?_
  rw[AEN]
  refine(Ll (b:=1) (by omega) _).trans ?_
  have u:Ae (List.length ([]:List V)) [sL .own (done++[rowB l[i]]),H9 g l,iv l.length,iv (i+1)]=true:=by
   simp only[Ae,AFj,QB];rfl
  refine(if_pos u).trans ?_
  have:=ih (i+1) .own (done++[rowB l[i]]) (by omega) (Or.inl rfl) (by simp[hd])
  rw[List.append_assoc]at this
  rw[List.drop_eq_getElem_cons hlt,List.map_cons]
  exact this
theorem ACb {l:List Msg} {m:Msg}:m∈Bl l↔m∈l:=List.mem_mergeSort
theorem CZ (l:List Msg):(Bl l).length=l.length:=List.length_mergeSort l
def FC (l:List Msg):List (List UInt8):=(Bl l).map rowB
theorem AIu {f:Fl} {l:List Msg} (hl:∀m∈l,Y7 m) (hn:l.length≤1000000):Cl 75 [H9 f l] []=some (sL .sh (FC l),[]):=by
 rw[ALC,AEI,AEJ,AEK]
 obtain⟨g,hg⟩:=Gs [] f l
 rw[hg]
 refine(AB (ABb g l hn) _).trans ?_
 refine(ACF Uo _).trans ?_
 have:=AIt (Bl l) (fun m hm=>hl m (ACb.1 hm)) (by rw[CZ];exact hn) .sh (Bl l).length 0 .nil [] (by omega) (Or.inr rfl) rfl
 rw[List.drop_zero,List.nil_append]at this
 rw[List.length_map]
 exact this
end
section
open Go AM
def inR (x:Int):Bool:=decide (0≤x)&&decide (x<64)
def mR (m:Msg):Bool:=inR m.fr&&inR m.to&&decide (m.val≤1125899906842624)&&decide (-1125899906842624≤m.val)
def Gt (a b:Msg):Bool:=decide (a.fr=b.fr)&&decide (a.to=b.to)
def Eh (l:List Msg):Nat→Nat→Bool
 |0,_=>true
 |n+1,i=> !(decide (0<i)&&Gt (l.getD (i-1) default) (l.getD i default))&&mR (l.getD i default)&&Eh l n (i+1)
def ET (l:List Msg):Bool:=decide (l.length≤512)&&Eh (Bl l) l.length 0
theorem AKD (x:Int):Cl 105 [.int .i64 x] []=some (.bool (inR x),[]):=by
 rw[AHY,AAC,AAD]
 by_cases h:0≤x
 ·refine(AN8 h _).trans ?_
  rw[BP]
  refine(AB (b_lss _ _ _) _).trans ?_
  rw[inR,decide_eq_true h];rfl
 ·refine(AN9 h _).trans ?_
  rw[BQ,inR,decide_eq_false h];rfl
abbrev cc:V:= .clo 105 []
theorem AMQ {h:List V} {id:Nat} {m:Msg} (hh:h[id]?=some (Ac m)) (dup:Bool) (K:V→List V→Option (V×List V)):
 Ya cc (.ref id [] 108) (.bool dup) h K=K (.bool (!mR m||dup)) h:=by
 rw[Ya]
 refine(ABY hh _).trans ?_
 refine(KO (f:=105) (cs:=[]) _ (by kernel_rfl) (by kernel_rfl)).trans ?_
 refine(AB (AKD m.fr) _).trans ?_
 refine(if_pos rfl).trans<|(AO3 _ _).trans ?_
 rw[VD]
 by_cases h1:inR m.fr=true
 ·rw[if_neg (by simp[h1])]
  refine(ABZ hh _).trans ?_
  refine(KO (f:=105) (cs:=[]) _ (by kernel_rfl) (by kernel_rfl)).trans ?_
  refine(AB (AKD m.to) _).trans ?_
  refine(if_pos rfl).trans<|(AO3 _ _).trans ?_
  rw[VD]
  by_cases h2:inR m.to=true
  ·rw[if_neg (by simp[h2])]
   refine(Y5 hh _).trans ?_
   by_cases h3:m.val≤1125899906842624
   ·refine(AIq (by omega) _).trans ?_
    rw[BQ]
    refine(Y5 hh _).trans ?_
    by_cases h4: -1125899906842624≤m.val
    ·refine(Js (by omega) _).trans ?_
     rw[BQ];simp[mR,h1,h2,h3,h4]
    ·refine(Jr (by omega) _).trans ?_
     rw[BP];simp[mR,h4]
   ·refine(AIp (by omega) _).trans ?_
    rw[BP];simp[mR,h3]
  ·rw[if_pos (by simp[h2])];simp[mR,h2]
 ·rw[if_pos (by simp[h1])];simp[mR,h1]
theorem AO7 {B:Type} {h:List V} {m:Msg} {x:Int} (j:Nat) (u:TypeId) (hj:[3,3,2][j]?=some u) (hu:P.cellsOf u≠0) (hx:[V.int .i64 m.fr,V.int .i64 m.to,V.int .i64 m.val][j]?=some (.int .i64 x)) (K:V→Option B):
 (A7 P 108 j (.rop 108 (Ac m))).bind (fun t=>(Aa h u t).bind K)=K (.int .i64 x):=by
 refine(AB (show A7 P 108 j (.rop 108 (Ac m))=some (.rop u (.int .i64 x))by simp[A7,Ru,hj,hu,Ac,hx]) _).trans ?_
 exact ldR K
theorem AO8 {B:Type} {h:List V} {m:Msg} (K:V→Option B):(A7 P 108 0 (.rop 108 (Ac m))).bind (fun t=>(Aa h 3 t).bind K)=K (.int .i64 m.fr):=AO7 0 _ rfl (by rw[ABB];decide) rfl K
theorem AO9 {B:Type} {h:List V} {m:Msg} (K:V→Option B):(A7 P 108 1 (.rop 108 (Ac m))).bind (fun t=>(Aa h 3 t).bind K)=K (.int .i64 m.to):=AO7 1 _ rfl (by rw[ABB];decide) rfl K
theorem OJ {l:List Msg} {i:Nat} (hi:i<l.length):(l.map Ac)[i]?=some (Ac (l.getD i default)):=by
 rw[AF9 hi,List.getD_eq_getElem?_getD,List.getElem?_eq_getElem hi];rfl
theorem AMR {h:List V} {id i:Nat} {g:Fl} {l:List Msg} {m:Msg} (hh:h[id]?=some (Ac m)) (hi:i<l.length) (hn:l.length≤1000000) (K:V→Option (V×List V)):
 YZ (H9 g l) (iv i) (.ref id [] 108) h K=K (.bool (decide (0<i)&&Gt (l.getD (i-1) default) m)):=by
 rw[YZ]
 by_cases h0:0<i
 ·refine(AIp (by omega) _).trans ?_
  rw[BP]
  refine(NV (b:=1) (by omega) (by omega) _).trans<|(AID PS (OJ (i:=i-1) (by omega)) _).trans<|(AO8 _).trans<|(ABY hh _).trans ?_
  by_cases h1:(l.getD (i-1) default).fr=m.fr
  ·refine(AQc h1 _).trans ?_
   rw[BP]
   refine(NV (b:=1) (by omega) (by omega) _).trans<|(AID PS (OJ (i:=i-1) (by omega)) _).trans<|(AO9 _).trans<|(ABZ hh _).trans ?_
   refine(AB (b_eql _ _ _) _).trans ?_
   rw[Gt,decide_eq_true h0,decide_eq_true h1];rfl
  ·refine(AQd h1 _).trans ?_
   rw[BQ,Gt,decide_eq_false h1];simp
 ·refine(AIq (by omega) _).trans ?_
  rw[BQ,decide_eq_false h0];rfl
theorem AMS (l:List Msg) (hn:l.length≤1000000) (g g':Fl):∀(n i:Nat),i+n=l.length→
 Ub cc (H9 g l) (H9 g' l) (iv l.length) (iv i) []=some (iv (if Eh l n i=true then 0 else 110),[]):=by
 intro n
 induction n with
 |zero=>
  intro i hi
  rw[Rn,YX]
  refine(Js (by omega) _).trans ?_
  rw[BQ,Zp,Ee];rfl
 |succ n ih=>
  intro i hi
  have hlt:i<l.length:=by omega
  rw[Rn,YX]
  refine(Jr (by omega) _).trans ?_
  rw[BP,AEH]
  refine(ACG PS (OJ hlt) _).trans<|(ldR _).trans ?_
  refine(AB (Ce (P:=P) (h:=[]++[zero P 108]) (id:=0) rfl (TB _) rfl) _).trans ?_
  generalize hm:l.getD i default=m
  have hh:(([]++[zero P 108]:List V).set 0 (Ac m))[0]?=some (Ac m):=rfl
  refine(AMR (id:=0) hh hlt hn _).trans ?_
  refine(AMQ (id:=0) hh _ _).trans ?_
  rw[VD,Eh,hm]
  generalize (decide (0<i)&&Gt (l.getD (i-1) default) m)=db at*
  by_cases hb:(!mR m||db)=true
  ·rw[if_pos hb,Zn,Ee]
   have e:(!db&&mR m&&Eh l n (i+1))=false:=by
    cases h1:mR m<;>cases h2:db<;>simp[h1,h2]at hb⊢
   rw[e];rfl
  ·rw[if_neg hb,Zo]
   refine(Ll (b:=1) (by omega) _).trans ?_
   have u:Ae (List.length ([]:List V)) [cc,H9 g l,H9 g' l,iv l.length,iv (i+1)]=true:=by
    simp only[Ae,QB];rfl
   refine(if_pos u).trans ?_
   have e:(!db&&mR m&&Eh l n (i+1))=Eh l n (i+1):=by
    cases h1:mR m<;>cases h2:db<;>simp[h1,h2]at hb⊢
   rw[e]
   exact ih (i+1) (by omega)
theorem AGA {f:Fl} {l:List Msg} (hn:l.length≤1000000):Cl 74 [H9 f l] []=some (iv (if ET l=true then 0 else 110),[]):=by
 rw[ALB,AEB,AEC,AED]
 refine(Yo Uo _).trans ?_
 rw[List.length_map]
 by_cases h:l.length≤512
 ·refine(AIq (by omega) _).trans ?_
  rw[BQ,AEF]
  obtain⟨g,hg⟩:=Gs [] f l
  rw[hg]
  refine(AB (ABb g l hn) _).trans ?_
  rw[AEG]
  refine(Yo Uo _).trans ?_
  rw[List.length_map]
  refine(AMS (Bl l) (by rw[CZ];exact hn) .sh .sh (Bl l).length 0 (by omega)).trans ?_
  rw[ET,decide_eq_true h,CZ,Bool.true_and]
 ·refine(AIp (by omega) _).trans ?_
  rw[BP,AEE,Ee,ET,decide_eq_false h];rfl
def DX (s:List UInt8):List UInt8:=Aq s.length++s
def D7 (l:List Msg):List UInt8:=Aq l.length++((FC l).map DX).flatten
theorem AGB (n:Nat) (h:List V) (s:List UInt8) (x:Int):(if(List.all [V.int .i64 x,V.str s] V.okE)=true then AV n h (V.tup [.str s,.int .i64 x])else none)=some (.tup [.str s,.int .i64 x],h.take n):=rfl
theorem AMT (rs:List (List UInt8)) (hr:∀r∈rs,r.length≤100) (hn:rs.length≤1000000):∀(n i:Nat) (done:List UInt8),i+n=rs.length→done.length≤200*i+100→
 UW (Bh 0) (sL .sh rs) (iv rs.length) (iv i) [BD .own done]=some (.tup [.str (done++((rs.drop i).map DX).flatten),.int .i64 0],[]):=by
 intro n
 induction n with
 |zero=>
  intro i done hi hd
  rw[Ri,YW]
  refine(Js (by omega) _).trans ?_
  rw[BQ,Zm]
  refine(AB (FY (id:=0) (h:=[BD .own done]) rfl) _).trans ?_
  refine(AGB _ _ _ _).trans ?_
  rw[List.drop_eq_nil_of_le (by omega)];simp
 |succ n ih=>
  intro i done hi hd
  have hlt:i<rs.length:=by omega
  have hg:(rs.map V.str)[i]?=some (V.str rs[i]):=by simp[hlt]
  have hl:=hr _ (List.getElem_mem hlt)
  have nb:=Af 10 rs[i].length
  rw[Ri,YW]
  refine(Jr (by omega) _).trans ?_
  rw[BP,ADz]
  refine(ACG AHw hg _).trans<|(ldR _).trans ?_
  rw[AD0]
  have e1:AP [Bh 0,V.str rs[i]]=[Bh 0,V.str rs[i]]:=rfl
  rw[e1]
  refine(AB (Ju (id:=0) (h:=[BD .own done]) rfl (Or.inl rfl) (by omega)) _).trans ?_
  rw[Zl]
  refine(Ll (b:=1) (by omega) _).trans ?_
  have:=ih (i+1) (done++Aq rs[i].length++rs[i]) (by omega) (by simp only[List.length_append,Aq];omega)
  rw[List.drop_eq_getElem_cons hlt,List.map_cons,List.flatten_cons,DX]
  simp only[List.append_assoc]at this⊢
  exact this
theorem AGC {f:Fl} {l:List Msg} (hl:∀m∈l,Y7 m) (hn:l.length≤1000000):
 Cl 49 [H9 f l] []=some (if ET l=true then .tup [.str (D7 l),.int .i64 0]else .tup [.str [],.int .i64 110],[]):=by
 rw[AKz,ADs,ADt]
 obtain⟨g0,hg0⟩:=AIs f l
 obtain⟨g,hg⟩:=Gs [] g0 l
 rw[hg0,hg]
 refine(AB (AGA hn) _).trans ?_
 rw[ADu]
 by_cases hc:ET l=true
 ·rw[if_pos hc,if_pos hc]
  refine(ACJ (by simp) _).trans ?_
  rw[BQ,ADw]
  refine(AB (Gp _) _).trans ?_
  rw[ADx,hg0]
  refine(ACF Uo _).trans ?_
  rw[List.length_map]
  refine(ABS (by omega) (by omega) _).trans ?_
  have e1:AP [Bh ([]:List V).length,V.int .u64 ((l.length:Int).toNat:Int)]=[Bh 0,V.int .u64 (l.length:Int)]:=rfl
  rw[e1]
  have nb:=Af 10 l.length
  refine(AB (Df (id:=0) (h:=[]++[BD .nil []]) rfl (Or.inr rfl) (by omega) (by simp)) _).trans ?_
  rw[ADy]
  obtain⟨g2,hg2⟩:=Gs (([]++[BD .nil []]).set 0 (BD .own ([]++Aq l.length))) f l
  rw[hg2]
  refine(AB (AIu hl hn) _).trans ?_
  refine(ACF ALa _).trans ?_
  have hlen:(FC l).length=l.length:=by rw[FC,List.length_map,CZ]
  have:=AMT (FC l) (by
   intro r hr
   rw[FC]at hr
   obtain⟨m,_,rfl⟩:=List.mem_map.1 hr
   have:=KW m;omega) (by omega) (FC l).length 0 (Aq l.length) (by omega) (by rw[Aq];omega)
  rw[List.drop_zero]at this
  rw[List.length_map]
  exact this
 ·rw[if_neg hc,if_neg hc]
  refine(ACI (by simp) _).trans ?_
  rw[BP,ADv]
  exact AGB _ _ _ _
end
section
open Go AM
def VF (s0:List UInt8):Nat→List Msg→List UInt8→List Msg×Nat
 |0,acc,s=>if EM s 0≠0 then([],EM s 0)else if ET acc=true∧D7 acc=s0 then(acc,0)else([],110)
 |n+1,acc,s=>if(textIn 40 s 0).2.2≠0 then([],(textIn 40 s 0).2.2)else
   if(IV (textIn 40 s 0).1).2≠0 then([],(IV (textIn 40 s 0).1).2)else VF s0 n (acc++[(IV (textIn 40 s 0).1).1]) (textIn 40 s 0).2.1
def L6 (s:List UInt8):List Msg×Nat:=
 if(AU s 0).2.2≠0 then([],(AU s 0).2.2)else if(AU s 0).1>512 then([],110)else VF s (AU s 0).1 [] (AU s 0).2.1
theorem Ia {n:Nat} {h:List V} {f:Fl} (hf:f≠ .lent) {l:List Msg} {x:Int}:(if(List.all [V.int .i64 x,H9 f l] V.okE)=true then AV n h (V.tup [H9 f l,.int .i64 x])else none)=some (.tup [H9 .sh l,.int .i64 x],h.take n):=by
 cases f<;>first|exact absurd rfl hf|rfl
theorem AGD (s:List UInt8):Y7 (IV s).1:=by
 have c:∀n:Nat,I64 (D8 n):=fun n=>by simp only[I64,D8];omega
 have z:∀n:Nat,n<18446744073709551616→I64 (zz n):=fun n hn=>by simp only[I64,zz];split<;>omega
 exact⟨c _,c _,z _ (IW _ _)⟩
theorem APA {B:Type} {f:Fl} {h:List V} {l:List Msg} (hf:OK f) (hl:l.length+1≤2147483648) (x:Msg) (K':V→Option B):
 (Ew P 31 1 [(0,Ac x)]).bind (fun y=>(EK P 31 h (H9 f l) y).bind K')=K' (H9 .own (l++[x])):=by
 refine(AB (AFS PS (TB x) rfl Ur ⟨_,rfl⟩) _).trans ?_
 refine(AB (AFR PS hf (y:=V.lst 108 .own [Ac x]) rfl rfl (XW [x]) (by simpa using hl) Ur) _).trans ?_
 rw[H9,List.map_append];rfl
theorem AMU {f:Fl} (hf:OK f) (l:List Msg):∃g,g≠ .lent∧(H9 f l).weak=H9 g l:=by
 rcases hf with rfl|rfl
 ·exact⟨.sh,(by intro h;cases h),rfl⟩
 ·exact⟨.nil,(by intro h;cases h),rfl⟩
theorem ART {f:Fl} (hf:OK f):f≠ .lent:=by rcases hf with rfl|rfl<;>(intro h;cases h)
theorem sNe {B:Type} (a b:List UInt8) (K:V→Option B):(AO .neq (.str a) (.str b)).bind K=K (.bool (decide (a≠b))):=by
 rw[s_neq];rfl
theorem QC (m:Nat) (s:List UInt8):(textIn m s 0).2.1.length≤s.length:=by
 simp only[textIn]
 split
 ·simp
 ·split<;>simp
theorem Me (m:Nat) (s:List UInt8):(textIn m s 0).1.length≤m:=by
 simp only[textIn,GL]
 split
 ·simp
 ·split
  ·simp
  ·split
   ·simp
   ·split
    ·simp
    ·simp only[List.length_take];omega
theorem AMV (s0:List UInt8) (cnt:Nat) (hc:cnt≤512):∀(n i:Nat) (f:Fl) (acc:List Msg) (s:List UInt8),i+n=cnt→OK f→acc.length=i→(∀m∈acc,Y7 m)→s.length<1000000000→
 Lj (.str s0) (CQ 0) (H9 f acc) (.int .u64 (cnt:Int)) (.int .u64 (i:Int)) [BG s 0]=some (.tup [H9 .sh (VF s0 n acc s).1,iv (VF s0 n acc s).2],[]):=by
 intro n
 induction n with
 |zero=>
  intro i f acc s hi hf ha hm hl
  rw[Rt,Yh]
  refine(Js (by omega) _).trans ?_
  rw[BQ,Z7]
  have e1:AP [CQ 0]=[CQ 0]:=rfl
  rw[e1]
  refine(AB (Uu (h:=[BG s 0]) (id:=0) rfl) _).trans ?_
  rw[Z8,VF]
  by_cases he:EM s 0≠0
  ·refine(ACI (by omega) _).trans ?_
   rw[BP,Z9,if_pos he]
   exact Ia (f:= .nil) (l:=[]) (by intro h;cases h)
  refine(ACJ (by omega) _).trans ?_
  rw[BQ,AAA,if_neg he]
  obtain⟨g0,hg0n,hg0⟩:=AMU hf acc
  obtain⟨g,hg⟩:=Gs [BG s 0] g0 acc
  rw[hg0,hg]
  refine(AB (AGC hm (by omega)) _).trans ?_
  by_cases hk:ET acc=true
  ·rw[if_pos hk]
   refine(AMK _ _ _).trans<|(AML _ _ _).trans ?_
   rw[Uf]
   refine(ACJ (by simp) _).trans ?_
   rw[BQ]
   refine(sNe _ _ _).trans ?_
   rw[VD]
   by_cases hp:D7 acc=s0
   ·rw[if_neg (by simp[hp]),AAB,show(if ET acc=true∧D7 acc=s0 then(acc,0)else(([],110):List Msg×Nat))=(acc,0)from if_pos ⟨hk,hp⟩]
    exact Ia (ART hf)
   ·rw[if_pos (by simp[hp]),Ug,show(if ET acc=true∧D7 acc=s0 then(acc,0)else(([],110):List Msg×Nat))=([],110)from if_neg (fun h=>hp h.2)]
    exact Ia (f:= .nil) (l:=[]) (by intro h;cases h)
  ·rw[if_neg hk]
   refine(AMK _ _ _).trans<|(AML _ _ _).trans ?_
   rw[Uf]
   refine(ACI (by simp) _).trans ?_
   rw[BP,BP,Ug,show(if ET acc=true∧D7 acc=s0 then(acc,0)else(([],110):List Msg×Nat))=([],110)from if_neg (fun h=>hk h.1)]
   exact Ia (f:= .nil) (l:=[]) (by intro h;cases h)
 |succ n ih=>
  intro i f acc s hi hf ha hm hl
  rw[Rt,Yh]
  refine(Jr (by omega) _).trans ?_
  rw[BP,Zu]
  have e1:AP [CQ 0,V.int .i64 40]=[CQ 0,V.int .i64 40]:=rfl
  have e2:AP [CQ 0]=[CQ 0]:=rfl
  rw[e1]
  refine(AB (U1 (h:=[BG s 0]) (id:=0) 40 (by omega) rfl (by omega)) _).trans ?_
  rw[Zv,e2,VF]
  have tl:=QC 40 s
  have tl1:=Me 40 s
  generalize textIn 40 s 0=t at*
  refine(AB (PZ (h:=[BG s 0].set 0 (BG t.2.1 t.2.2)) (id:=0) rfl) _).trans ?_
  by_cases he:t.2.2≠0
  ·refine(ACI (by omega) _).trans ?_
   rw[BP,Zw,e2,if_pos he]
   refine(AB (PZ (h:=[BG s 0].set 0 (BG t.2.1 t.2.2)) (id:=0) rfl) _).trans ?_
   exact Ia (f:= .nil) (l:=[]) (by intro h;cases h)
  refine(ACJ (by omega) _).trans ?_
  rw[BQ,Zx,if_neg he]
  have mo:=AGD t.1
  refine(AB (Y4 t.1 (by omega)) _).trans<|(AMK _ _ _).trans<|(AML _ _ _).trans ?_
  generalize IV t.1=m at*
  have he0:t.2.2=0:=by omega
  refine(AB (Ce (P:=P) (h:=[BG t.2.1 t.2.2]++[zero P 108]) (id:=1) rfl (TB _) rfl) _).trans ?_
  rw[Zy]
  by_cases hm2:m.2≠0
  ·refine(ACI (by omega) _).trans ?_
   rw[BP,Zz,if_pos hm2]
   exact Ia (f:= .nil) (l:=[]) (by intro h;cases h)
  refine(ACJ (by omega) _).trans ?_
  rw[BQ,Z4,if_neg hm2]
  refine(AB (BR (v:=Ac m.1) (Cm rfl)) _).trans ?_
  refine(APA hf (by omega) _ _).trans ?_
  rw[Z5]
  refine(AN7 (b:=1) (by omega) _).trans ?_
  have u:Ae (List.length [BG s 0]) [V.str s0,CQ 0,H9 .own (acc++[m.1]),.int .u64 (cnt:Int),.int .u64 ((i+1:Nat):Int)]=true:=by
   simp only[Ae,QB];rfl
  refine(if_pos u).trans ?_
  have:=ih (i+1) .own (acc++[m.1]) t.2.1 (by omega) (Or.inl rfl) (by simp[ha]) (by
   intro x hx;rcases List.mem_append.1 hx with hx|hx
   ·exact hm x hx
   ·rw[List.mem_singleton.1 hx];exact mo) (by omega)
  show Lj _ _ _ _ _ [BG t.2.1 t.2.2]=_
  rw[he0]
  exact this
theorem AMW {s:List UInt8} (hl:s.length<1000000000):Cl 85 [.str s] []=some (.tup [H9 .sh (L6 s).1,iv (L6 s).2],[]):=by
 have e0:AP [V.str s]=[V.str s]:=rfl
 have e2:AP [CQ ([]:List V).length]=[CQ 0]:=rfl
 rw[ALJ,AEp,AEq,e0]
 refine(AB (FV [] s) _).trans ?_
 rw[AEr,e2]
 refine(AB (He (h:=[BG s 0]) (id:=0) rfl (by omega)) _).trans ?_
 have nl:=EY s 0
 have nlt:=IW s 0
 rw[AEs,e2,L6]
 generalize AU s 0=a at*
 refine(AB (PZ (h:=[BG s 0].set 0 (BG a.2.1 a.2.2)) (id:=0) rfl) _).trans ?_
 by_cases he:a.2.2≠0
 ·refine(ACI (by omega) _).trans ?_
  rw[BP,AEt,e2,if_pos he]
  refine(AB (PZ (h:=[BG s 0].set 0 (BG a.2.1 a.2.2)) (id:=0) rfl) _).trans ?_
  exact Ia (f:= .nil) (l:=[]) (by intro h;cases h)
 refine(ACJ (by omega) _).trans ?_
 rw[BQ,AEu,if_neg he]
 by_cases h5:a.1>512
 ·refine(AIp (by omega) _).trans ?_
  rw[BP,AEv,if_pos h5]
  exact Ia (f:= .nil) (l:=[]) (by intro h;cases h)
 refine(AIq (by omega) _).trans ?_
 rw[BQ,AEw,AEx,if_neg h5]
 have he0:a.2.2=0:=by omega
 show Lj _ _ _ _ _ [BG a.2.1 a.2.2]=_
 rw[he0]
 exact AMV s a.1 (by omega) a.1 0 .nil [] a.2.1 (by omega) (Or.inr rfl) rfl (by intro m hm;cases hm) (by omega)
end
section
open Go AM
end
section
open Go AM
def AMX (l:List Msg):List UInt8:=AFm (FC l)
end
section
open Go AM
theorem Hg (l:List Msg):(Bl l).Pairwise fun x y=>(!YL y x)=true:=by
 refine List.pairwise_mergeSort ?_ ?_ l
 ·intro a b c h1 h2
  simp only[Bool.not_eq_true']at h1 h2⊢
  exact VE.ntrans c b a h2 h1
 ·intro a b
  simp only[Bool.or_eq_true,Bool.not_eq_true']
  cases h:YL b a with
  |false=>exact Or.inl rfl
  |true=>
   right
   cases h2:YL a b with
   |false=>rfl
   |true=>have:=VE.trans _ _ _ h h2;rw[VE.irrefl]at this;cases this
theorem XY {l m:List Msg} (hl:l.Pairwise fun x y=>(!YL y x)=true) (hm:m.Pairwise fun x y=>(!YL y x)=true) (h:l.Perm m):l=m:=by
 refine List.Perm.eq_of_pairwise (le:=fun x y=>(!YL y x)=true) ?_ hl hm h
 intro a b _ _ h1 h2
 simp only[Bool.not_eq_true']at h1 h2
 exact AMM a b h2 h1
theorem QD {l m:List Msg} (h:l.Perm m):Bl l=Bl m:=
 XY (Hg l) (Hg m) ((List.mergeSort_perm l _).trans (h.trans (List.mergeSort_perm m _).symm))
theorem TG {l m:List Msg} (h:l.Perm m):ET l=ET m:=by rw[ET,ET,h.length_eq,QD h]
theorem ACd {l m:List Msg} (h:l.Perm m):D7 l=D7 m:=by rw[D7,D7,FC,FC,h.length_eq,QD h]
@[go_sem] theorem AMY (l:List Msg):(AMX l).length=32:=Si _ _
end
section
open Go AM
theorem ABc (a b:Msg):Jl (Ac a) (Ac b)=some (decide (a=b)):=by
 simp only[Ac,Jl,LW,if_true,Option.bind_some]
 by_cases h1:a.fr=b.fr<;>by_cases h2:a.to=b.to<;>by_cases h3:a.val=b.val<;>cases a<;>cases b<;>simp_all
@[go_sem] theorem eqM (a b:Msg):NU (BK 107) .eql (Ac a) (Ac b)=some (.bool (decide (a=b))):=by
  simp only[NU,XL,Bool.and_self,if_true,ABc,Option.map_some]
@[go_sem] theorem neM (a b:Msg):NU (BK 107) .neq (Ac a) (Ac b)=some (.bool (!decide (a=b))):=by
  simp only[NU,XL,Bool.and_self,if_true,ABc,Option.map_some]
theorem AGE {l:List Msg} {i:Nat} (h:i<l.length):(l.map Ac)[i]?=some (Ac (l.getD i default)):=OJ h
theorem getD_lt {l:List Msg} {i:Nat} (h:i<l.length):l.getD i default=l[i]:=by
 rw[List.getD_eq_getElem?_getD,List.getElem?_eq_getElem h];rfl
end
section
open Go AM
theorem VG {l:List (List UInt8)} {i:Nat} (h:i<l.length):(l.map V.str)[i]?=some (.str l[i]):=by simp[h]
end
section
open Go AM
structure Vd where
 err:Int
 pl:Int
 wk:Int
 st:Int
 root:List UInt8
 bt:List (List UInt8)
 sent:List Msg
 known:List (List UInt8)
abbrev tVd:TypeId:=59
abbrev tCo:TypeId:=56
def Be (v:Vd):V:= .agg tVd [.int .i64 v.err,.int .i64 v.pl,.agg tCo [.int .i64 v.wk,.int .i64 v.st,Au v.root,.lst 55 .sh (v.bt.map Au)],.lst 108 .sh (v.sent.map Ac),sS v.known]
theorem AFb {x:V} {l:List V} (h:x.pl=true) (k:Gj l=true):Gj (x::l)=true:=by simp only[Gj,h,k,Bool.and_self]
@[go_sem] theorem L8 (v:Vd):(Be v).pl=true:=by
  have e:(sS v.known).pl=true:=by simp only[sS,V.pl,KT]
  simp only[Be,V.pl,Gj,EZ,Fb,e,Jy,Bool.and_self,Bool.true_and,Bool.and_true]
@[go_sem] theorem ABd (l:List Vd):Gj (l.map Be)=true:=Dk L8 l
@[go_sem] theorem ABe (v:Vd):BK tVd (Be v)=true:=Hu ..
theorem AIv (l:List Vd):(l.map Be).all (BK tVd)=true:=all_map (fun _=>Hu ..) l
@[go_sem] theorem XZ (v:Vd):(Be v).weak=Be v:=(V.PF _ (L8 v)).weak
@[go_sem] theorem APB (v:Vd):(Be v).norm=Be v:=(V.PF _ (L8 v)).norm
@[go_sem] theorem ACe (h:List V) (v:Vd):(Be v).reify h=Be v:=(V.PF _ (L8 v)).reify h
theorem Xa {l:List Vd} {i:Nat} (h:i<l.length):(l.map Be)[i]?=some (Be l[i]):=by simp[h]
abbrev lVd (l:List Vd):V:= .lst 60 .sh (l.map Be)
theorem VH (a b:Nat):decide ((a:Int)≤(b:Int))=decide (a≤b):=by rw[Bool.eq_iff_iff,decide_eq_true_eq,decide_eq_true_eq];omega
theorem Hw {e:TypeId} {f:Fl} {xs:List V} {i:Nat} {x:V} (h:xs[i]?=some x):Di e (.lst e f xs) (.int .i64 (i:Int))=some (.rop e x):=by
 have:=SS e f xs .i64 i
 rw[h]at this
 exact this
theorem VI (l:List (List UInt8)):DK (sS l)=some (.int .i64 (l.length:Int)):=by
 have:(l.map V.str).length=l.length:=by simp
 rw[←this];rfl
theorem Bc (t:TypeId) (f:Fl) {α:Type} (g:α→V) (l:List α):DK (.lst t f (l.map g))=some (.int .i64 (l.length:Int)):=by
 have:(l.map g).length=l.length:=by simp
 rw[←this];rfl
def KX (l:List (List UInt8)):Bool:=l.all (fun s=>decide (s.length≤300))&&decide (l.length≤12)
theorem AGG {l:List (List UInt8)} (hl:l.length<9223372036854775808):∀(n i:Nat),i+n=l.length→
 UQ (sS l) (.int .i64 (i:Int))=some (.bool ((l.drop i).all (fun s=>decide (s.length≤300))&&decide (l.length≤12)),[]):=by
 intro n
 have hL:=VI l
 induction n with
 |zero=>
  intro i hi
  have ls:AO .lss (.int .i64 (i:Int)) (.int .i64 (l.length:Int))=some (.bool false):=by rw[b_lss,decide_eq_false (by omega)]
  have le:AO .leq (.int .i64 (l.length:Int)) (.int .i64 12)=some (.bool (decide (l.length≤12))):=by rw[b_leq];exact congrArg (fun b=>some (V.bool b)) (VH _ 12)
  rw[List.drop_eq_nil_of_le (by omega),List.all_nil,Bool.true_and,Lc]
  generalize decide (l.length≤12)=b at*
  generalize (l.length:Int)=z at*
  generalize hs:sS l=L at*
  have w:L.weak=L:=by rw[←hs];rfl
  (repeat' with_reducible first|refine(Aj _ _).trans ?_|refine(Ak _ _).trans ?_|refine(AA _ _).trans ?_|((first|(refine' (AB ?_ _).trans ?_;rotate_left)|refine(if_pos ?_).trans ?_|refine(AX ?_ _ _).trans ?_);focus (first|rfl|(simp(disch:=first|assumption|omega|with_reducible rfl|(simp only[go_sem]<;>omega)|fail) only[↓reduceIte,↓AA,Nat.reduceAdd,go_sem,Bool.not_true,Bool.not_false,hL,ls,le,w]<;>first|rfl|omega)|assumption|omega))|(refine(AQ ?_ _ _).trans ?_;focus (first|(simp(disch:=first|assumption|omega|with_reducible rfl|(simp only[go_sem]<;>omega)|fail) only[↓reduceIte,↓AA,Nat.reduceAdd,go_sem,Bool.not_true,Bool.not_false,hL,ls,le,w]<;>omega)|assumption|omega))|fail)
  rfl
 |succ n ih=>
  intro i hi
  have h:i<l.length:=by omega
  have ls:AO .lss (.int .i64 (i:Int)) (.int .i64 (l.length:Int))=some (.bool true):=by rw[b_lss,decide_eq_true (by omega)]
  have ix:Di 9 (sS l) (.int .i64 (i:Int))=some (.rop 9 (.str l[i])):=Hw (f:= .sh) (VG h)
  have ad:AO .add (.int .i64 (i:Int)) (.int .i64 1)=some (.int .i64 ((i+1:Nat):Int)):=by rw[DR,wrap_i64 (by omega) (by omega)];rfl
  have ih':=ih (i+1) (by omega)
  rw[List.drop_eq_getElem_cons h,List.all_cons]
  by_cases hx:l[i].length≤300
  ·have gt:AO .gtr (.int .i64 (l[i].length:Int)) (.int .i64 300)=some (.bool false):=by rw[b_gtr,decide_eq_false (by omega)]
   rw[decide_eq_true hx,Bool.true_and,←ih',Lc]
   clear ih ih'
   generalize l[i]=x at*
   generalize (l.length:Int)=z at*
   generalize (i+1:Nat)=j at*
   generalize hs:sS l=L at*
   have w:L.weak=L:=by rw[←hs];rfl
   (repeat' with_reducible first|refine(Aj _ _).trans ?_|refine(Ak _ _).trans ?_|refine(AA _ _).trans ?_|((first|(refine' (AB ?_ _).trans ?_;rotate_left)|refine(if_pos ?_).trans ?_|refine(AX ?_ _ _).trans ?_);focus (first|rfl|(simp(disch:=first|assumption|omega|with_reducible rfl|(simp only[go_sem]<;>omega)|fail) only[↓reduceIte,↓AA,Nat.reduceAdd,go_sem,Bool.not_true,Bool.not_false,hL,ls,ix,ad,w,gt]<;>first|rfl|omega)|assumption|omega))|(refine(AQ ?_ _ _).trans ?_;focus (first|(simp(disch:=first|assumption|omega|with_reducible rfl|(simp only[go_sem]<;>omega)|fail) only[↓reduceIte,↓AA,Nat.reduceAdd,go_sem,Bool.not_true,Bool.not_false,hL,ls,ix,ad,w,gt]<;>omega)|assumption|omega))|fail)
   rfl
  ·have gt:AO .gtr (.int .i64 (l[i].length:Int)) (.int .i64 300)=some (.bool true):=by rw[b_gtr,decide_eq_true (by omega)]
   rw[decide_eq_false hx,Bool.false_and,Bool.false_and,Lc]
   clear ih ih'
   generalize l[i]=x at*
   generalize (l.length:Int)=z at*
   generalize hs:sS l=L at*
   have w:L.weak=L:=by rw[←hs];rfl
   (repeat' with_reducible first|refine(Aj _ _).trans ?_|refine(Ak _ _).trans ?_|refine(AA _ _).trans ?_|((first|(refine' (AB ?_ _).trans ?_;rotate_left)|refine(if_pos ?_).trans ?_|refine(AX ?_ _ _).trans ?_);focus (first|rfl|(simp(disch:=first|assumption|omega|with_reducible rfl|(simp only[go_sem]<;>omega)|fail) only[↓reduceIte,↓AA,Nat.reduceAdd,go_sem,Bool.not_true,Bool.not_false,hL,ls,ix,w,gt]<;>first|rfl|omega)|assumption|omega))|(refine(AQ ?_ _ _).trans ?_;focus (first|(simp(disch:=first|assumption|omega|with_reducible rfl|(simp only[go_sem]<;>omega)|fail) only[↓reduceIte,↓AA,Nat.reduceAdd,go_sem,Bool.not_true,Bool.not_false,hL,ls,ix,w,gt]<;>omega)|assumption|omega))|fail)
   rfl
theorem Xb {l:List (List UInt8)} (hl:l.length<9223372036854775808):Cl 27 [sS l] []=some (.bool (KX l),[]):=by
 have h:=AGG hl l.length 0 (by omega)
 rw[List.drop_zero]at h
 rw[KX,←h,AKl]
 rfl
def ACf (b:Bk):Bool:=b.known.all (fun k=>decide (k.length≤12)&&KX k)&&(decide (b.gone.length≤8)&&(decide (b.roots.length≤8)&&(decide (b.known.length≤8)&&decide (b.sent.length≤20))))
theorem AIw {b:Bk} (hk:b.known.length<9223372036854775808) (he:∀k∈b.known,k.length<9223372036854775808):∀(n i:Nat),i+n=b.known.length→
 UF (.ref 0 [] 33) (.int .i64 (i:Int)) [vB b]=some (.bool ((b.known.drop i).all (fun k=>decide (k.length≤12)&&KX k)&&(decide (b.gone.length≤8)&&(decide (b.roots.length≤8)&&(decide (b.known.length≤8)&&decide (b.sent.length≤20))))),[]):=by
 intro n
 have L1:=Bc 4 .sh V.bool b.gone
 have L2:=Bc 55 .sh Au b.roots
 have L3:=Bc 58 .sh sS b.known
 have L4:=Bc 108 .sh Ac b.sent
 induction n with
 |zero=>
  intro i hi
  have ls:AO .lss (.int .i64 (i:Int)) (.int .i64 (b.known.length:Int))=some (.bool false):=by rw[b_lss,decide_eq_false (by omega)]
  have le:∀a c:Nat,AO .leq (.int .i64 (a:Int)) (.int .i64 (c:Int))=some (.bool (decide (a≤c))):=fun a c=>by rw[b_leq];exact congrArg (fun b=>some (V.bool b)) (VH a c)
  have l1:AO .leq (.int .i64 (b.gone.length:Int)) (.int .i64 8)=_:=le _ 8
  have l2:AO .leq (.int .i64 (b.roots.length:Int)) (.int .i64 8)=_:=le _ 8
  have l3:AO .leq (.int .i64 (b.known.length:Int)) (.int .i64 8)=_:=le _ 8
  have l4:AO .leq (.int .i64 (b.sent.length:Int)) (.int .i64 20)=_:=le _ 20
  rw[List.drop_eq_nil_of_le (by omega),List.all_nil,Bool.true_and,I8]
  simp only[vB,Jc]
  clear le
  generalize decide (b.gone.length≤8)=d1 at*
  generalize decide (b.roots.length≤8)=d2 at*
  generalize decide (b.known.length≤8)=d3 at*
  generalize decide (b.sent.length≤20)=d4 at*
  generalize (b.gone.length:Int)=z1 at*
  generalize (b.roots.length:Int)=z2 at*
  generalize (b.known.length:Int)=z3 at*
  generalize (b.sent.length:Int)=z4 at*
  generalize b.gone.map V.bool=a1 at*
  generalize b.roots.map Au=a2 at*
  generalize b.known.map sS=a3 at*
  generalize b.sent.map Ac=a4 at*
  cases d1
  ·(repeat' with_reducible first|refine(Aj _ _).trans ?_|refine(Ak _ _).trans ?_|refine(AA _ _).trans ?_|((first|(refine' (AB ?_ _).trans ?_;rotate_left)|refine(if_pos ?_).trans ?_|refine(AX ?_ _ _).trans ?_);focus (first|rfl|(simp(disch:=first|assumption|omega|with_reducible rfl|(simp only[go_sem]<;>omega)|fail) only[↓reduceIte,↓AA,Nat.reduceAdd,go_sem,Bool.not_true,Bool.not_false,L1,L2,L3,L4,ls,l1]<;>first|rfl|omega)|assumption|omega))|(refine(AQ ?_ _ _).trans ?_;focus (first|(simp(disch:=first|assumption|omega|with_reducible rfl|(simp only[go_sem]<;>omega)|fail) only[↓reduceIte,↓AA,Nat.reduceAdd,go_sem,Bool.not_true,Bool.not_false,L1,L2,L3,L4,ls,l1]<;>omega)|assumption|omega))|fail)
   rfl
  cases d2
  ·(repeat' with_reducible first|refine(Aj _ _).trans ?_|refine(Ak _ _).trans ?_|refine(AA _ _).trans ?_|((first|(refine' (AB ?_ _).trans ?_;rotate_left)|refine(if_pos ?_).trans ?_|refine(AX ?_ _ _).trans ?_);focus (first|rfl|(simp(disch:=first|assumption|omega|with_reducible rfl|(simp only[go_sem]<;>omega)|fail) only[↓reduceIte,↓AA,Nat.reduceAdd,go_sem,Bool.not_true,Bool.not_false,L1,L2,L3,L4,ls,l1,l2]<;>first|rfl|omega)|assumption|omega))|(refine(AQ ?_ _ _).trans ?_;focus (first|(simp(disch:=first|assumption|omega|with_reducible rfl|(simp only[go_sem]<;>omega)|fail) only[↓reduceIte,↓AA,Nat.reduceAdd,go_sem,Bool.not_true,Bool.not_false,L1,L2,L3,L4,ls,l1,l2]<;>omega)|assumption|omega))|fail)
   rfl
  cases d3
  ·(repeat' with_reducible first|refine(Aj _ _).trans ?_|refine(Ak _ _).trans ?_|refine(AA _ _).trans ?_|((first|(refine' (AB ?_ _).trans ?_;rotate_left)|refine(if_pos ?_).trans ?_|refine(AX ?_ _ _).trans ?_);focus (first|rfl|(simp(disch:=first|assumption|omega|with_reducible rfl|(simp only[go_sem]<;>omega)|fail) only[↓reduceIte,↓AA,Nat.reduceAdd,go_sem,Bool.not_true,Bool.not_false,L1,L2,L3,L4,ls,l1,l2,l3]<;>first|rfl|omega)|assumption|omega))|(refine(AQ ?_ _ _).trans ?_;focus (first|(simp(disch:=first|assumption|omega|with_reducible rfl|(simp only[go_sem]<;>omega)|fail) only[↓reduceIte,↓AA,Nat.reduceAdd,go_sem,Bool.not_true,Bool.not_false,L1,L2,L3,L4,ls,l1,l2,l3]<;>omega)|assumption|omega))|fail)
   rfl
  (repeat' with_reducible first|refine(Aj _ _).trans ?_|refine(Ak _ _).trans ?_|refine(AA _ _).trans ?_|((first|(refine' (AB ?_ _).trans ?_;rotate_left)|refine(if_pos ?_).trans ?_|refine(AX ?_ _ _).trans ?_);focus (first|rfl|(simp(disch:=first|assumption|omega|with_reducible rfl|(simp only[go_sem]<;>omega)|fail) only[↓reduceIte,↓AA,Nat.reduceAdd,go_sem,Bool.not_true,Bool.not_false,L1,L2,L3,L4,ls,l1,l2,l3,l4]<;>first|rfl|omega)|assumption|omega))|(refine(AQ ?_ _ _).trans ?_;focus (first|(simp(disch:=first|assumption|omega|with_reducible rfl|(simp only[go_sem]<;>omega)|fail) only[↓reduceIte,↓AA,Nat.reduceAdd,go_sem,Bool.not_true,Bool.not_false,L1,L2,L3,L4,ls,l1,l2,l3,l4]<;>omega)|assumption|omega))|fail)
  rfl
 |succ n ih=>
  intro i hi
  have h:i<b.known.length:=by omega
  have hx:=he _ (List.getElem_mem h)
  have ls:AO .lss (.int .i64 (i:Int)) (.int .i64 (b.known.length:Int))=some (.bool true):=by rw[b_lss,decide_eq_true (by omega)]
  have at_:(b.known.map sS)[i]?=some (sS b.known[i]):=by simp[h]
  have ix:Di 58 (.lst 58 .sh (b.known.map sS)) (.int .i64 (i:Int))=some (.rop 58 (sS b.known[i])):=Hw (f:= .sh) at_
  have ad:AO .add (.int .i64 (i:Int)) (.int .i64 1)=some (.int .i64 ((i+1:Nat):Int)):=by rw[DR,wrap_i64 (by omega) (by omega)];rfl
  have ln:=VI b.known[i]
  have fw:=Xb hx
  have ih':=ih (i+1) (by omega)
  have ry:∀h,AL h [sS b.known[i]]=[sS b.known[i]]:=fun _=>rfl
  rw[List.drop_eq_getElem_cons h,List.all_cons]
  by_cases h12:b.known[i].length≤12
  ·have gt:AO .gtr (.int .i64 (b.known[i].length:Int)) (.int .i64 12)=some (.bool false):=by rw[b_gtr,decide_eq_false (by omega)]
   cases hf:KX b.known[i]with
   |true=>
    rw[hf]at fw
    rw[decide_eq_true h12,Bool.true_and,Bool.true_and,←ih',I8]
    clear ih ih' hf
    simp only[vB,Jc]
    generalize (i+1:Nat)=j at*
    generalize hs:sS b.known[i]=L at*
    have w:L.weak=L:=by rw[←hs];rfl
    clear hs
    generalize (b.known.length:Int)=z3 at*
    generalize (b.known[i].length:Int)=z at*
    generalize b.known.map sS=a3 at*
    (repeat' with_reducible first|refine(Aj _ _).trans ?_|refine(Ak _ _).trans ?_|refine(AA _ _).trans ?_|((first|(refine' (AB ?_ _).trans ?_;rotate_left)|refine(if_pos ?_).trans ?_|refine(AX ?_ _ _).trans ?_);focus (first|rfl|(simp(disch:=first|assumption|omega|with_reducible rfl|(simp only[go_sem]<;>omega)|fail) only[↓reduceIte,↓AA,Nat.reduceAdd,go_sem,Bool.not_true,Bool.not_false,L3,ls,ix,ad,w,ln,gt,ry,fw]<;>first|rfl|omega)|assumption|omega))|(refine(AQ ?_ _ _).trans ?_;focus (first|(simp(disch:=first|assumption|omega|with_reducible rfl|(simp only[go_sem]<;>omega)|fail) only[↓reduceIte,↓AA,Nat.reduceAdd,go_sem,Bool.not_true,Bool.not_false,L3,ls,ix,ad,w,ln,gt,ry,fw]<;>omega)|assumption|omega))|fail)
    rfl
   |false=>
    rw[hf]at fw
    rw[Bool.and_false,Bool.false_and,Bool.false_and,I8]
    clear ih ih' hf
    simp only[vB,Jc]
    generalize hs:sS b.known[i]=L at*
    have w:L.weak=L:=by rw[←hs];rfl
    clear hs
    generalize (b.known.length:Int)=z3 at*
    generalize (b.known[i].length:Int)=z at*
    generalize b.known.map sS=a3 at*
    (repeat' with_reducible first|refine(Aj _ _).trans ?_|refine(Ak _ _).trans ?_|refine(AA _ _).trans ?_|((first|(refine' (AB ?_ _).trans ?_;rotate_left)|refine(if_pos ?_).trans ?_|refine(AX ?_ _ _).trans ?_);focus (first|rfl|(simp(disch:=first|assumption|omega|with_reducible rfl|(simp only[go_sem]<;>omega)|fail) only[↓reduceIte,↓AA,Nat.reduceAdd,go_sem,Bool.not_true,Bool.not_false,L3,ls,ix,w,ln,gt,ry,fw]<;>first|rfl|omega)|assumption|omega))|(refine(AQ ?_ _ _).trans ?_;focus (first|(simp(disch:=first|assumption|omega|with_reducible rfl|(simp only[go_sem]<;>omega)|fail) only[↓reduceIte,↓AA,Nat.reduceAdd,go_sem,Bool.not_true,Bool.not_false,L3,ls,ix,w,ln,gt,ry,fw]<;>omega)|assumption|omega))|fail)
    rfl
  ·have gt:AO .gtr (.int .i64 (b.known[i].length:Int)) (.int .i64 12)=some (.bool true):=by rw[b_gtr,decide_eq_true (by omega)]
   rw[decide_eq_false h12,Bool.false_and,Bool.false_and,Bool.false_and,I8]
   clear ih ih'
   simp only[vB,Jc]
   generalize hs:sS b.known[i]=L at*
   have w:L.weak=L:=by rw[←hs];rfl
   clear hs
   generalize (b.known.length:Int)=z3 at*
   generalize (b.known[i].length:Int)=z at*
   generalize b.known.map sS=a3 at*
   (repeat' with_reducible first|refine(Aj _ _).trans ?_|refine(Ak _ _).trans ?_|refine(AA _ _).trans ?_|((first|(refine' (AB ?_ _).trans ?_;rotate_left)|refine(if_pos ?_).trans ?_|refine(AX ?_ _ _).trans ?_);focus (first|rfl|(simp(disch:=first|assumption|omega|with_reducible rfl|(simp only[go_sem]<;>omega)|fail) only[↓reduceIte,↓AA,Nat.reduceAdd,go_sem,Bool.not_true,Bool.not_false,L3,ls,ix,w,ln,gt]<;>first|rfl|omega)|assumption|omega))|(refine(AQ ?_ _ _).trans ?_;focus (first|(simp(disch:=first|assumption|omega|with_reducible rfl|(simp only[go_sem]<;>omega)|fail) only[↓reduceIte,↓AA,Nat.reduceAdd,go_sem,Bool.not_true,Bool.not_false,L3,ls,ix,w,ln,gt]<;>omega)|assumption|omega))|fail)
   rfl
theorem AIx {b:Bk} (hk:b.known.length<9223372036854775808) (he:∀k∈b.known,k.length<9223372036854775808):Cl 15 [vB b] []=some (.bool (ACf b),[]):=by
 have h:=AIw hk he b.known.length 0 (by omega)
 rw[List.drop_zero]at h
 rw[ACf,←h,AKe]
 (repeat' with_reducible first|refine(Aj _ _).trans ?_|refine(Ak _ _).trans ?_|refine(AA _ _).trans ?_|((first|(refine' (AB ?_ _).trans ?_;rotate_left)|refine(if_pos ?_).trans ?_|refine(AX ?_ _ _).trans ?_);focus (first|rfl|(simp(disch:=first|assumption|omega|with_reducible rfl|(simp only[go_sem]<;>omega)|fail) only[↓reduceIte,↓AA,Nat.reduceAdd,go_sem,Bool.not_true,Bool.not_false]<;>first|rfl|omega)|assumption|omega))|(refine(AQ ?_ _ _).trans ?_;focus (first|(simp(disch:=first|assumption|omega|with_reducible rfl|(simp only[go_sem]<;>omega)|fail) only[↓reduceIte,↓AA,Nat.reduceAdd,go_sem,Bool.not_true,Bool.not_false]<;>omega)|assumption|omega))|fail)
 rfl
def AGH (l:List Vd):Bool:=l.all (fun v=>KX v.known&&decide (v.sent.length≤20))&&decide (l.length≤8)
theorem AIy {l:List Vd} (hl:l.length<9223372036854775808) (he:∀v∈l,v.known.length<9223372036854775808):∀(n i:Nat),i+n=l.length→
 UG (lVd l) (.int .i64 (i:Int))=some (.bool ((l.drop i).all (fun v=>KX v.known&&decide (v.sent.length≤20))&&decide (l.length≤8)),[]):=by
 intro n
 have L1:=Bc 60 .sh Be l
 induction n with
 |zero=>
  intro i hi
  have ls:AO .lss (.int .i64 (i:Int)) (.int .i64 (l.length:Int))=some (.bool false):=by rw[b_lss,decide_eq_false (by omega)]
  have le:AO .leq (.int .i64 (l.length:Int)) (.int .i64 8)=some (.bool (decide (l.length≤8))):=by rw[b_leq];exact congrArg (fun b=>some (V.bool b)) (VH _ 8)
  rw[List.drop_eq_nil_of_le (by omega),List.all_nil,Bool.true_and,I9]
  simp only[lVd]
  generalize decide (l.length≤8)=b at*
  generalize (l.length:Int)=z at*
  generalize l.map Be=L at*
  (repeat' with_reducible first|refine(Aj _ _).trans ?_|refine(Ak _ _).trans ?_|refine(AA _ _).trans ?_|((first|(refine' (AB ?_ _).trans ?_;rotate_left)|refine(if_pos ?_).trans ?_|refine(AX ?_ _ _).trans ?_);focus (first|rfl|(simp(disch:=first|assumption|omega|with_reducible rfl|(simp only[go_sem]<;>omega)|fail) only[↓reduceIte,↓AA,Nat.reduceAdd,go_sem,Bool.not_true,Bool.not_false,L1,ls,le]<;>first|rfl|omega)|assumption|omega))|(refine(AQ ?_ _ _).trans ?_;focus (first|(simp(disch:=first|assumption|omega|with_reducible rfl|(simp only[go_sem]<;>omega)|fail) only[↓reduceIte,↓AA,Nat.reduceAdd,go_sem,Bool.not_true,Bool.not_false,L1,ls,le]<;>omega)|assumption|omega))|fail)
  rfl
 |succ n ih=>
  intro i hi
  have h:i<l.length:=by omega
  have hx:=he _ (List.getElem_mem h)
  have ls:AO .lss (.int .i64 (i:Int)) (.int .i64 (l.length:Int))=some (.bool true):=by rw[b_lss,decide_eq_true (by omega)]
  have ix:Di 60 (lVd l) (.int .i64 (i:Int))=some (.rop 60 (Be l[i])):=Hw (f:= .sh) (Xa h)
  have ad:AO .add (.int .i64 (i:Int)) (.int .i64 1)=some (.int .i64 ((i+1:Nat):Int)):=by rw[DR,wrap_i64 (by omega) (by omega)];rfl
  have ln:=Bc 108 .sh Ac l[i].sent
  have fw:=Xb hx
  have ih':=ih (i+1) (by omega)
  have ry:∀h,AL h [sS l[i].known]=[sS l[i].known]:=fun _=>rfl
  have w:(sS l[i].known).weak=sS l[i].known:=rfl
  rw[List.drop_eq_getElem_cons h,List.all_cons]
  simp only[Be,lVd]at ix⊢
  simp only[lVd]at ih'
  cases hf:KX l[i].known with
  |false=>
   rw[hf]at fw
   rw[Bool.false_and,Bool.false_and,Bool.false_and,I9]
   clear ih ih' hf
   generalize l[i]=v at*
   generalize (l.length:Int)=z3 at*
   generalize l.map Be=a3 at*
   generalize sS v.known=L at*
   (repeat' with_reducible first|refine(Aj _ _).trans ?_|refine(Ak _ _).trans ?_|refine(AA _ _).trans ?_|((first|(refine' (AB ?_ _).trans ?_;rotate_left)|refine(if_pos ?_).trans ?_|refine(AX ?_ _ _).trans ?_);focus (first|rfl|(simp(disch:=first|assumption|omega|with_reducible rfl|(simp only[go_sem]<;>omega)|fail) only[↓reduceIte,↓AA,Nat.reduceAdd,go_sem,Bool.not_true,Bool.not_false,L1,ls,ix,ry,fw,w]<;>first|rfl|omega)|assumption|omega))|(refine(AQ ?_ _ _).trans ?_;focus (first|(simp(disch:=first|assumption|omega|with_reducible rfl|(simp only[go_sem]<;>omega)|fail) only[↓reduceIte,↓AA,Nat.reduceAdd,go_sem,Bool.not_true,Bool.not_false,L1,ls,ix,ry,fw,w]<;>omega)|assumption|omega))|fail)
   rfl
  |true=>
   rw[hf]at fw
   by_cases h20:l[i].sent.length≤20
   ·have gt:AO .gtr (.int .i64 (l[i].sent.length:Int)) (.int .i64 20)=some (.bool false):=by rw[b_gtr,decide_eq_false (by omega)]
    rw[decide_eq_true h20,Bool.true_and,Bool.true_and,←ih',I9]
    clear ih ih' hf
    generalize (i+1:Nat)=j at*
    generalize l[i]=v at*
    generalize (l.length:Int)=z3 at*
    generalize (v.sent.length:Int)=z at*
    generalize v.sent.map Ac=M at*
    generalize l.map Be=a3 at*
    generalize sS v.known=L at*
    (repeat' with_reducible first|refine(Aj _ _).trans ?_|refine(Ak _ _).trans ?_|refine(AA _ _).trans ?_|((first|(refine' (AB ?_ _).trans ?_;rotate_left)|refine(if_pos ?_).trans ?_|refine(AX ?_ _ _).trans ?_);focus (first|rfl|(simp(disch:=first|assumption|omega|with_reducible rfl|(simp only[go_sem]<;>omega)|fail) only[↓reduceIte,↓AA,Nat.reduceAdd,go_sem,Bool.not_true,Bool.not_false,L1,ls,ix,ry,fw,w,ln,gt,ad]<;>first|rfl|omega)|assumption|omega))|(refine(AQ ?_ _ _).trans ?_;focus (first|(simp(disch:=first|assumption|omega|with_reducible rfl|(simp only[go_sem]<;>omega)|fail) only[↓reduceIte,↓AA,Nat.reduceAdd,go_sem,Bool.not_true,Bool.not_false,L1,ls,ix,ry,fw,w,ln,gt,ad]<;>omega)|assumption|omega))|fail)
    rfl
   ·have gt:AO .gtr (.int .i64 (l[i].sent.length:Int)) (.int .i64 20)=some (.bool true):=by rw[b_gtr,decide_eq_true (by omega)]
    rw[decide_eq_false h20,Bool.and_false,Bool.false_and,Bool.false_and,I9]
    clear ih ih' hf
    generalize l[i]=v at*
    generalize (l.length:Int)=z3 at*
    generalize (v.sent.length:Int)=z at*
    generalize v.sent.map Ac=M at*
    generalize l.map Be=a3 at*
    generalize sS v.known=L at*
    (repeat' with_reducible first|refine(Aj _ _).trans ?_|refine(Ak _ _).trans ?_|refine(AA _ _).trans ?_|((first|(refine' (AB ?_ _).trans ?_;rotate_left)|refine(if_pos ?_).trans ?_|refine(AX ?_ _ _).trans ?_);focus (first|rfl|(simp(disch:=first|assumption|omega|with_reducible rfl|(simp only[go_sem]<;>omega)|fail) only[↓reduceIte,↓AA,Nat.reduceAdd,go_sem,Bool.not_true,Bool.not_false,L1,ls,ix,ry,fw,w,ln,gt]<;>first|rfl|omega)|assumption|omega))|(refine(AQ ?_ _ _).trans ?_;focus (first|(simp(disch:=first|assumption|omega|with_reducible rfl|(simp only[go_sem]<;>omega)|fail) only[↓reduceIte,↓AA,Nat.reduceAdd,go_sem,Bool.not_true,Bool.not_false,L1,ls,ix,ry,fw,w,ln,gt]<;>omega)|assumption|omega))|fail)
    rfl
theorem AIz {l:List Vd} (hl:l.length<9223372036854775808) (he:∀v∈l,v.known.length<9223372036854775808):Cl 16 [lVd l] []=some (.bool (AGH l),[]):=by
 have h:=AIy hl he l.length 0 (by omega)
 rw[List.drop_zero]at h
 rw[AGH,←h,AKf]
 rfl
end
section
open Go AM
def EU (v:Vd):Bool:= !decide (v.err=0)
theorem AGI (v:Vd):Cl 43 [Be v] []=some (.bool (EU v),[]):=by
 have ne:AO .neq (.int .i64 v.err) (.int .i64 0)=some (.bool (EU v)):=by
  rw[b_neq,EU];congr 2
  by_cases h:v.err=0<;>simp[h]
 have h1:=L8 v
 rw[AKt]
 have w:=XZ v
 have c:(BK tVd (Be v)&&V.under 0 (Be v))=true:=by rw[ABe,(V.PF _ h1).under];rfl
 rw[w,if_pos c]
 clear c w h1
 simp only[Be]
 generalize EU v=o at*
 (repeat' with_reducible first|refine(Aj _ _).trans ?_|refine(Ak _ _).trans ?_|refine(AA _ _).trans ?_|((first|(refine' (AB ?_ _).trans ?_;rotate_left)|refine(if_pos ?_).trans ?_|refine(AX ?_ _ _).trans ?_);focus (first|rfl|(simp(disch:=first|assumption|omega|with_reducible rfl|(simp only[go_sem]<;>omega)|fail) only[↓reduceIte,↓AA,Nat.reduceAdd,go_sem,Bool.not_true,Bool.not_false,ne]<;>first|rfl|omega)|assumption|omega))|(refine(AQ ?_ _ _).trans ?_;focus (first|(simp(disch:=first|assumption|omega|with_reducible rfl|(simp only[go_sem]<;>omega)|fail) only[↓reduceIte,↓AA,Nat.reduceAdd,go_sem,Bool.not_true,Bool.not_false,ne]<;>omega)|assumption|omega))|fail)
 rfl
abbrev NC:V:= .clo 43 []
theorem AMZ {R:Type} {h:List V} (v:Vd) (k:V→List V→Option R):CB P Dn W NC [Be v] h k=k (.bool (EU v)) h:=by
 rw[KO _ (by kernel_rfl) (by kernel_rfl)]
 have e:AL h ([Be v]++[])=[Be v]:=by simp only[List.append_nil,AL,ACe]
 rw[e,AGI v];rfl
theorem AI0 (a:V) {l:List Vd} (hl:l.length<1000000):∀(m i:Nat),i+m=l.length→
 Ua (.lst 60 .sh (l.map Be)) NC (.int .i64 (l.length:Int)) (.int .i64 (i:Int)) 1 [a]=some (.int .i64 (Hf EU i (l.drop i)),[a]):=by
 intro m
 induction m with
 |zero=>
  intro i hi
  rw[List.drop_eq_nil_of_le (by omega),Lh,Hf]
  have ls:AO .lss (.int .i64 (i:Int)) (.int .i64 (l.length:Int))=some (.bool false):=by rw[b_lss,decide_eq_false (by omega)]
  (repeat' with_reducible first|refine(Aj _ _).trans ?_|refine(Ak _ _).trans ?_|refine(AA _ _).trans ?_|((first|(refine' (AB ?_ _).trans ?_;rotate_left)|refine(if_pos ?_).trans ?_|refine(AX ?_ _ _).trans ?_);focus (first|rfl|(simp(disch:=first|assumption|omega|with_reducible rfl|(simp only[go_sem]<;>omega)|fail) only[↓reduceIte,↓AA,Nat.reduceAdd,go_sem,Bool.not_true,Bool.not_false,ls]<;>first|rfl|omega)|assumption|omega))|(refine(AQ ?_ _ _).trans ?_;focus (first|(simp(disch:=first|assumption|omega|with_reducible rfl|(simp only[go_sem]<;>omega)|fail) only[↓reduceIte,↓AA,Nat.reduceAdd,go_sem,Bool.not_true,Bool.not_false,ls]<;>omega)|assumption|omega))|fail)
  rfl
 |succ m ih=>
  intro i hi
  have h:i<l.length:=by omega
  have ih':=ih (i+1) (by omega)
  have ls:AO .lss (.int .i64 (i:Int)) (.int .i64 (l.length:Int))=some (.bool true):=by rw[b_lss,decide_eq_true (by omega)]
  have ix:Di 60 (.lst 60 .sh (l.map Be)) (.int .i64 (i:Int))=some (.rop 60 (Be l[i])):=Hw (f:= .sh) (Xa h)
  have ad:AO .add (.int .i64 (i:Int)) (.int .i64 1)=some (.int .i64 ((i+1:Nat):Int)):=by rw[DR,wrap_i64 (by omega) (by omega)];rfl
  have ld:∀h,BA h 60 (.rop 60 (Be l[i]))=some (Be l[i]):=fun h=>by simp only[BA,Aa,if_true,Option.map_some,XZ]
  have od:=fun(R:Type) h (k:V→List V→Option R)=>AMZ (h:=h) l[i] k
  rw[List.drop_eq_getElem_cons h,Hf]
  by_cases ho:EU l[i]=true
  ·rw[ho]at od
   rw[if_pos ho,Lh]
   clear ih ih' ho
   generalize Be l[i]=v at*
   generalize (l.length:Int)=z at*
   generalize l.map Be=L at*
   (repeat' with_reducible first|refine(Aj _ _).trans ?_|refine(Ak _ _).trans ?_|refine(AA _ _).trans ?_|((first|(refine' (AB ?_ _).trans ?_;rotate_left)|refine(if_pos ?_).trans ?_|refine(AX ?_ _ _).trans ?_);focus (first|rfl|(simp(disch:=first|assumption|omega|with_reducible rfl|(simp only[go_sem]<;>omega)|fail) only[↓reduceIte,↓AA,Nat.reduceAdd,go_sem,Bool.not_true,Bool.not_false,ls,ix,ld]<;>first|rfl|omega)|assumption|omega))|(refine(AQ ?_ _ _).trans ?_;focus (first|(simp(disch:=first|assumption|omega|with_reducible rfl|(simp only[go_sem]<;>omega)|fail) only[↓reduceIte,↓AA,Nat.reduceAdd,go_sem,Bool.not_true,Bool.not_false,ls,ix,ld]<;>omega)|assumption|omega))|fail)
   rw[od]
   (repeat' with_reducible first|refine(Aj _ _).trans ?_|refine(Ak _ _).trans ?_|refine(AA _ _).trans ?_|((first|(refine' (AB ?_ _).trans ?_;rotate_left)|refine(if_pos ?_).trans ?_|refine(AX ?_ _ _).trans ?_);focus (first|rfl|(simp(disch:=first|assumption|omega|with_reducible rfl|(simp only[go_sem]<;>omega)|fail) only[↓reduceIte,↓AA,Nat.reduceAdd,go_sem,Bool.not_true,Bool.not_false]<;>first|rfl|omega)|assumption|omega))|(refine(AQ ?_ _ _).trans ?_;focus (first|(simp(disch:=first|assumption|omega|with_reducible rfl|(simp only[go_sem]<;>omega)|fail) only[↓reduceIte,↓AA,Nat.reduceAdd,go_sem,Bool.not_true,Bool.not_false]<;>omega)|assumption|omega))|fail)
   rfl
  ·have ho':EU l[i]=false:=by simpa using ho
   rw[ho']at od
   rw[if_neg ho,←ih',Lh]
   clear ih ih' ho ho'
   generalize (i+1:Nat)=j at*
   generalize Be l[i]=v at*
   generalize (l.length:Int)=z at*
   generalize l.map Be=L at*
   (repeat' with_reducible first|refine(Aj _ _).trans ?_|refine(Ak _ _).trans ?_|refine(AA _ _).trans ?_|((first|(refine' (AB ?_ _).trans ?_;rotate_left)|refine(if_pos ?_).trans ?_|refine(AX ?_ _ _).trans ?_);focus (first|rfl|(simp(disch:=first|assumption|omega|with_reducible rfl|(simp only[go_sem]<;>omega)|fail) only[↓reduceIte,↓AA,Nat.reduceAdd,go_sem,Bool.not_true,Bool.not_false,ls,ix,ld]<;>first|rfl|omega)|assumption|omega))|(refine(AQ ?_ _ _).trans ?_;focus (first|(simp(disch:=first|assumption|omega|with_reducible rfl|(simp only[go_sem]<;>omega)|fail) only[↓reduceIte,↓AA,Nat.reduceAdd,go_sem,Bool.not_true,Bool.not_false,ls,ix,ld]<;>omega)|assumption|omega))|fail)
   rw[od]
   (repeat' with_reducible first|refine(Aj _ _).trans ?_|refine(Ak _ _).trans ?_|refine(AA _ _).trans ?_|((first|(refine' (AB ?_ _).trans ?_;rotate_left)|refine(if_pos ?_).trans ?_|refine(AX ?_ _ _).trans ?_);focus (first|rfl|(simp(disch:=first|assumption|omega|with_reducible rfl|(simp only[go_sem]<;>omega)|fail) only[↓reduceIte,↓AA,Nat.reduceAdd,go_sem,Bool.not_true,Bool.not_false,ad]<;>first|rfl|omega)|assumption|omega))|(refine(AQ ?_ _ _).trans ?_;focus (first|(simp(disch:=first|assumption|omega|with_reducible rfl|(simp only[go_sem]<;>omega)|fail) only[↓reduceIte,↓AA,Nat.reduceAdd,go_sem,Bool.not_true,Bool.not_false,ad]<;>omega)|assumption|omega))|fail)
   rfl
theorem AI1 (a:V) {l:List Vd} (hl:l.length<1000000):Cl 44 [.lst 60 .sh (l.map Be),NC] [a]=some (.bool (l.any EU),[a]):=by
 have h:=AI0 a hl l.length 0 (by omega)
 rw[List.drop_zero]at h
 have L1:=Bc 60 .sh Be l
 have n2:AP [V.lst 60 .sh (l.map Be),NC]=[V.lst 60 .sh (l.map Be),NC]:=rfl
 have ix:Cl 73 [.lst 60 .sh (l.map Be),NC] [a]=some (.int .i64 (Hf EU 0 l),[a]):=by
  rw[←h,ALA]
  clear h n2
  generalize l.map Be=L at*
  (repeat' with_reducible first|refine(Aj _ _).trans ?_|refine(Ak _ _).trans ?_|refine(AA _ _).trans ?_|((first|(refine' (AB ?_ _).trans ?_;rotate_left)|refine(if_pos ?_).trans ?_|refine(AX ?_ _ _).trans ?_);focus (first|rfl|(simp(disch:=first|assumption|omega|with_reducible rfl|(simp only[go_sem]<;>omega)|fail) only[↓reduceIte,↓AA,Nat.reduceAdd,go_sem,Bool.not_true,Bool.not_false,L1]<;>first|rfl|omega)|assumption|omega))|(refine(AQ ?_ _ _).trans ?_;focus (first|(simp(disch:=first|assumption|omega|with_reducible rfl|(simp only[go_sem]<;>omega)|fail) only[↓reduceIte,↓AA,Nat.reduceAdd,go_sem,Bool.not_true,Bool.not_false,L1]<;>omega)|assumption|omega))|fail)
  rfl
 have ge:AO .geq (.int .i64 (Hf EU 0 l)) (.int .i64 0)=some (.bool (l.any EU)):=by
  rw[b_geq];exact congrArg (fun b=>some (V.bool b)) (by rw[←U5 EU l 0])
 rw[AKu]
 clear h L1
 generalize l.map Be=L at*
 generalize Hf EU 0 l=r at*
 generalize l.any EU=o at*
 (repeat' with_reducible first|refine(Aj _ _).trans ?_|refine(Ak _ _).trans ?_|refine(AA _ _).trans ?_|((first|(refine' (AB ?_ _).trans ?_;rotate_left)|refine(if_pos ?_).trans ?_|refine(AX ?_ _ _).trans ?_);focus (first|rfl|(simp(disch:=first|assumption|omega|with_reducible rfl|(simp only[go_sem]<;>omega)|fail) only[↓reduceIte,↓AA,Nat.reduceAdd,go_sem,Bool.not_true,Bool.not_false,n2,ix,ge]<;>first|rfl|omega)|assumption|omega))|(refine(AQ ?_ _ _).trans ?_;focus (first|(simp(disch:=first|assumption|omega|with_reducible rfl|(simp only[go_sem]<;>omega)|fail) only[↓reduceIte,↓AA,Nat.reduceAdd,go_sem,Bool.not_true,Bool.not_false,n2,ix,ge]<;>omega)|assumption|omega))|fail)
 rfl
def nxF (f:Fl) (n:Nat):Fl:=if f= .nil∧n=0 then .nil else .own
theorem AGJ {f:Fl} (n:Nat):nxF f n= .own∨nxF f n= .nil:=by unfold nxF;split<;>simp
theorem AKE {f g:Fl} (hf:f= .own∨f= .nil) {h:List V} {ys:List V} {ty:V→Bool} {xs:List V} (hc:AY ys=true) (ht:ys.all ty=true) (hl:xs.length+ys.length≤2147483648) (e e':TypeId):
 G6 e ty false h (.lst e f xs) (.lst e' g ys)=some (.lst e (nxF f ys.length) (xs++ys)):=by
 have nl:∀l,nlB false l=l:=fun l=>AJ3 l
 rcases hf with rfl|rfl
 ·rw[Eg hc ht hl,nl];rfl
 ·cases ys with
  |nil=>
   have hy:Ah h (.lst e' g [])=some []:=rfl
   have hl':xs.length≤2147483648:=by simpa using hl
   simp[G6,hy,AY,Dh,hl',nl,nxF]
  |cons y ys=>rw[Wx hc ht hl,nl];rfl
def TI (l:List (List UInt8)):List UInt8:=(l.map DX).flatten
def Vf (v:Vd):List UInt8:=v.root++Aq v.known.length++TI v.known
theorem ACg {a b:V} {l s:List UInt8} (hl:l.length≤1000000000) (hs:s.length≤1000000000):Cl 48 [Bh 1,.str s] [a,BD .own l,b]=some (.tup [],[a,BD .own (l++DX s),b]):=by
 have:=Ju (h:=[a,BD .own l,b]) (id:=1) (f:= .own) (l:=l) (s:=s) rfl IU (by omega)
 rw[List.append_assoc]at this
 exact this
theorem Y8 {a:V} {l s:List UInt8} (hl:l.length≤1000000000) (hs:s.length≤1000000000):Cl 48 [Bh 1,.str s] [a,BD .own l]=some (.tup [],[a,BD .own (l++DX s)]):=by
 have:=Ju (h:=[a,BD .own l]) (id:=1) (f:= .own) (l:=l) (s:=s) rfl IU (by omega)
 rw[List.append_assoc]at this
 exact this
theorem ACh {a b:V} {l:List UInt8} {x:Nat} (h1:x<18446744073709551616) (hl:l.length≤2000000000):Cl 46 [Bh 1,.int .u64 (x:Int)] [a,BD .own l,b]=some (.tup [],[a,BD .own (l++Aq x),b]):=
 Df (h:=[a,BD .own l,b]) (id:=1) (n:=x) rfl IU (by omega) (by omega)
theorem KY {s:List UInt8}:(DX s).length≤s.length+10:=by
 have:=Af 10 s.length
 rw[DX,List.length_append];simp only[Aq];omega
def KZ (v:Vd):Prop:=v.root.length=32∧v.known.length≤12∧(∀s∈v.known,s.length≤300)∧v.sent.length≤20∧∀m∈v.sent,Y7 m
theorem AMa {b:V} {l:List Vd} {v:Vd} (hv:KZ v) {i:Nat} (hi:i<8) {sent:List Msg} {f:Fl} (hf:f= .own∨f= .nil) (hs:sent.length≤20*i) {m0:Nat} (hm:m0=2):∀(n k:Nat) (acc:List UInt8),k+n=v.known.length→acc.length≤100000+400*k→
 UH (Bh 1) (.lst 108 f (sent.map Ac)) (.ref 2 [] 60) (.lst 60 .sh (l.map Be)) (.int .i64 (l.length:Int)) (.int .i64 (i:Int)) (sS v.known) (.int .i64 (v.known.length:Int)) (.int .i64 (k:Int)) m0 [b,BD .own acc,Be v]=
  Oa (Bh 1) (.lst 108 (nxF f v.sent.length) ((sent++v.sent).map Ac)) (.lst 60 .sh (l.map Be)) (.int .i64 (l.length:Int)) (.int .i64 ((i+1:Nat):Int)) [b,BD .own (acc++TI (v.known.drop k))]:=by
 subst hm
 obtain⟨h32,h12,h300,h20,hmok⟩:=hv
 intro n
 induction n with
 |zero=>
  intro k acc hk ha
  have ls:AO .lss (.int .i64 (k:Int)) (.int .i64 (v.known.length:Int))=some (.bool false):=by rw[b_lss,decide_eq_false (by omega)]
  have ad:AO .add (.int .i64 (i:Int)) (.int .i64 1)=some (.int .i64 ((i+1:Nat):Int)):=by rw[DR,wrap_i64 (by omega) (by omega)];rfl
  rw[List.drop_eq_nil_of_le (by omega),TI,List.map_nil,List.flatten_nil,List.append_nil,RP]
  have hc:AY (v.sent.map Ac)=true:=(V.PFL _ (Fb v.sent)).clean
  have ap:∀h:List V,G6 108 (BK 107) false h (.lst 108 f (sent.map Ac)) (.lst 108 .sh (v.sent.map Ac))=some (.lst 108 (nxF f v.sent.length) ((sent++v.sent).map Ac)):=fun h=>by
   rw[AKE hf hc (XM _) (by simp;omega),List.length_map,List.map_append]
  have fo:=AGJ (f:=f) v.sent.length
  have un:∀g x y z,(g= .own∨g= .nil)→Ae 2 [Bh 1,.lst 108 g ((sent++v.sent).map Ac),.lst 60 .sh x,.int .i64 y,.int .i64 z]=true:=fun g x y z hg=>by
   rcases hg with rfl|rfl<;>rfl
  have un':=fun x y z=>un _ x y z fo
  simp only[Be]
  clear un fo hc hmok h300
  generalize nxF f v.sent.length=f2 at*
  generalize (sent++v.sent).map Ac=S2 at*
  generalize sent.map Ac=S1 at*
  generalize v.sent.map Ac=S0 at*
  generalize (i+1:Nat)=j at*
  generalize l.map Be=L at*
  generalize (l.length:Int)=zl at*
  generalize (v.known.length:Int)=z at*
  generalize sS v.known=S at*
  (repeat' with_reducible first|refine(Aj _ _).trans ?_|refine(Ak _ _).trans ?_|refine(AA _ _).trans ?_|((first|(refine' (AB ?_ _).trans ?_;rotate_left)|refine(if_pos ?_).trans ?_|refine(AX ?_ _ _).trans ?_);focus (first|rfl|(simp(disch:=first|assumption|omega|with_reducible rfl|(simp only[go_sem]<;>omega)|fail) only[↓reduceIte,↓AA,Nat.reduceAdd,go_sem,Bool.not_true,Bool.not_false,ls,ap,ad,un']<;>first|rfl|omega)|assumption|omega))|(refine(AQ ?_ _ _).trans ?_;focus (first|(simp(disch:=first|assumption|omega|with_reducible rfl|(simp only[go_sem]<;>omega)|fail) only[↓reduceIte,↓AA,Nat.reduceAdd,go_sem,Bool.not_true,Bool.not_false,ls,ap,ad,un']<;>omega)|assumption|omega))|fail)
  rfl
 |succ n ih=>
  intro k acc hk ha
  have h:k<v.known.length:=by omega
  have hx:=h300 _ (List.getElem_mem h)
  have tl:=KY (s:=v.known[k])
  have ls:AO .lss (.int .i64 (k:Int)) (.int .i64 (v.known.length:Int))=some (.bool true):=by rw[b_lss,decide_eq_true (by omega)]
  have ix:Di 9 (sS v.known) (.int .i64 (k:Int))=some (.rop 9 (.str v.known[k])):=Hw (f:= .sh) (VG h)
  have ad:AO .add (.int .i64 (k:Int)) (.int .i64 1)=some (.int .i64 ((k+1:Nat):Int)):=by rw[DR,wrap_i64 (by omega) (by omega)];rfl
  have ot:=ACg (a:=b) (b:=Be v) (l:=acc) (s:=v.known[k]) (by omega) (by omega)
  have ih':=ih (k+1) (acc++DX v.known[k]) (by omega) (by rw[List.length_append];omega)
  have nr:∀s:List UInt8,AP [Bh 1,.str s]=[Bh 1,.str s]:=fun s=>rfl
  rw[List.drop_eq_getElem_cons h,TI,List.map_cons,List.flatten_cons,←List.append_assoc]
  rw[TI]at ih'
  rw[←ih',RP]
  clear ih ih' tl hmok h300
  generalize acc++DX v.known[k]=acc2 at*
  generalize v.known[k]=s at*
  generalize (k+1:Nat)=j at*
  generalize (v.known.length:Int)=z at*
  generalize sS v.known=S at*
  generalize Be v=vv at*
  (repeat' with_reducible first|refine(Aj _ _).trans ?_|refine(Ak _ _).trans ?_|refine(AA _ _).trans ?_|((first|(refine' (AB ?_ _).trans ?_;rotate_left)|refine(if_pos ?_).trans ?_|refine(AX ?_ _ _).trans ?_);focus (first|rfl|(simp(disch:=first|assumption|omega|with_reducible rfl|(simp only[go_sem]<;>omega)|fail) only[↓reduceIte,↓AA,Nat.reduceAdd,go_sem,Bool.not_true,Bool.not_false,ls,ix,nr,ot,ad]<;>first|rfl|omega)|assumption|omega))|(refine(AQ ?_ _ _).trans ?_;focus (first|(simp(disch:=first|assumption|omega|with_reducible rfl|(simp only[go_sem]<;>omega)|fail) only[↓reduceIte,↓AA,Nat.reduceAdd,go_sem,Bool.not_true,Bool.not_false,ls,ix,nr,ot,ad]<;>omega)|assumption|omega))|fail)
  rfl
def Az (l:List Vd):List Msg:=l.flatMap (·.sent)
theorem Gu {l:List Vd} (h:∀v∈l,KZ v):(Az l).length≤20*l.length:=by
 induction l with
 |nil=>simp[Az]
 |cons v l ih=>
  have a:=ih (fun x hx=>h x (List.mem_cons_of_mem _ hx))
  have b:=(h v List.mem_cons_self).2.2.2.1
  simp only[Az,List.flatMap_cons,List.length_append,List.length_cons]at a⊢;omega
theorem Xc {l:List Vd} (h:∀v∈l,KZ v):∀m∈Az l,Y7 m:=by
 intro m hm
 obtain⟨v,hv,hm⟩:=List.mem_flatMap.1 hm
 exact(h v hv).2.2.2.2 m hm
theorem AI3 {l:List (List UInt8)} (h:∀s∈l,s.length≤300):(TI l).length≤310*l.length:=by
 induction l with
 |nil=>simp[TI]
 |cons s l ih=>
  have a:=ih (fun x hx=>h x (List.mem_cons_of_mem _ hx))
  have b:=h s List.mem_cons_self
  have c:=KY (s:=s)
  simp only[TI,List.map_cons,List.flatten_cons,List.length_append,List.length_cons]at a⊢;omega
theorem ABf {v:Vd} (h:KZ v):(Vf v).length≤3800:=by
 have a:=AI3 h.2.2.1
 have b:=h.2.1
 have c:=Af 10 v.known.length
 rw[Vf,List.length_append,List.length_append,h.1];simp only[Aq];omega
theorem QE (l:List Msg):(D7 l).length≤10+40*l.length:=by
 have a:=Af 10 l.length
 have:∀rs:List (List UInt8),(∀r∈rs,r.length≤30)→((rs.map DX).flatten).length≤40*rs.length:=by
  intro rs
  induction rs with
  |nil=>simp
  |cons r rs ih=>
   intro h
   have b:=ih (fun x hx=>h x (List.mem_cons_of_mem _ hx))
   have c:=h r List.mem_cons_self
   have d:=KY (s:=r)
   simp only[List.map_cons,List.flatten_cons,List.length_append,List.length_cons];omega
 have b:=this (FC l) (fun r hr=>by
  obtain⟨m,_,rfl⟩:=List.mem_map.1 hr
  exact KW m)
 rw[FC,List.length_map,CZ]at b
 rw[D7,List.length_append];simp only[Aq,FC];omega
def AI4 (s:List UInt8) (l:List Msg):V:=if ET l=true then .tup [.str (s++DX (D7 l)),.int .i64 0]else .tup [.str [],.int .i64 170]
theorem AMb {b:V} {l:List Vd} (hl:l.length≤8) (hv:∀v∈l,KZ v):∀(n i:Nat) (f:Fl) (acc:List UInt8),i+n=l.length→(f= .own∨f= .nil)→acc.length≤20+3800*i→
 Oa (Bh 1) (.lst 108 f ((Az (l.take i)).map Ac)) (.lst 60 .sh (l.map Be)) (.int .i64 (l.length:Int)) (.int .i64 (i:Int)) [b,BD .own acc]=some (AI4 (acc++(l.drop i).flatMap Vf) (Az l),[]):=by
 intro n
 induction n with
 |zero=>
  intro i f acc hi hf ha
  have ls:AO .lss (.int .i64 (i:Int)) (.int .i64 (l.length:Int))=some (.bool false):=by rw[b_lss,decide_eq_false (by omega)]
  have sl:=Gu hv
  have pl:=QE (Az l)
  have pt:Cl 49 [.lst 108 .sh ((Az l).map Ac)] []=_:=AGC (f:= .sh) (Xc hv) (by omega)
  have ry:∀(f:Fl) h,(f= .own∨f= .nil)→AL h [V.lst 108 f ((Az l).map Ac)]=[V.lst 108 .sh ((Az l).map Ac)]:=fun f h hf=>by rcases hf with rfl|rfl<;>rfl
  have ry':=fun h=>ry f h hf
  have ot:=Y8 (a:=b) (l:=acc) (s:=D7 (Az l)) (by omega) (by omega)
  have nr:∀s:List UInt8,AP [Bh 1,.str s]=[Bh 1,.str s]:=fun s=>rfl
  have nr1:AP [Bh 1]=[Bh 1]:=rfl
  rw[List.take_of_length_le (by omega),List.drop_eq_nil_of_le (by omega),List.flatMap_nil,List.append_nil,RQ,AI4]
  by_cases hc:ET (Az l)=true
  ·rw[if_pos hc]at pt
   rw[if_pos hc]
   have od:=Sj (a:=b) (f:= .own) (l:=acc++DX (D7 (Az l)))
   clear ry hc pl sl hv
   generalize acc++DX (D7 (Az l))=acc2 at*
   generalize D7 (Az l)=pb at*
   generalize (Az l).map Ac=S at*
   generalize (l.length:Int)=z at*
   generalize l.map Be=L at*
   have ne:AO .neq (.int .i64 0) (.int .i64 0)=some (.bool false):=rfl
   (repeat' with_reducible first|refine(Aj _ _).trans ?_|refine(Ak _ _).trans ?_|refine(AA _ _).trans ?_|((first|(refine' (AB ?_ _).trans ?_;rotate_left)|refine(if_pos ?_).trans ?_|refine(AX ?_ _ _).trans ?_);focus (first|rfl|(simp(disch:=first|assumption|omega|with_reducible rfl|(simp only[go_sem]<;>omega)|fail) only[↓reduceIte,↓AA,Nat.reduceAdd,go_sem,Bool.not_true,Bool.not_false,ls,ry',pt,ne,nr,nr1,ot,od]<;>first|rfl|omega)|assumption|omega))|(refine(AQ ?_ _ _).trans ?_;focus (first|(simp(disch:=first|assumption|omega|with_reducible rfl|(simp only[go_sem]<;>omega)|fail) only[↓reduceIte,↓AA,Nat.reduceAdd,go_sem,Bool.not_true,Bool.not_false,ls,ry',pt,ne,nr,nr1,ot,od]<;>omega)|assumption|omega))|fail)
   rfl
  ·rw[if_neg hc]at pt
   rw[if_neg hc]
   clear ry hc pl sl hv
   generalize D7 (Az l)=pb at*
   generalize (Az l).map Ac=S at*
   generalize (l.length:Int)=z at*
   generalize l.map Be=L at*
   have ne:AO .neq (.int .i64 110) (.int .i64 0)=some (.bool true):=rfl
   (repeat' with_reducible first|refine(Aj _ _).trans ?_|refine(Ak _ _).trans ?_|refine(AA _ _).trans ?_|((first|(refine' (AB ?_ _).trans ?_;rotate_left)|refine(if_pos ?_).trans ?_|refine(AX ?_ _ _).trans ?_);focus (first|rfl|(simp(disch:=first|assumption|omega|with_reducible rfl|(simp only[go_sem]<;>omega)|fail) only[↓reduceIte,↓AA,Nat.reduceAdd,go_sem,Bool.not_true,Bool.not_false,ls,ry',pt,ne]<;>first|rfl|omega)|assumption|omega))|(refine(AQ ?_ _ _).trans ?_;focus (first|(simp(disch:=first|assumption|omega|with_reducible rfl|(simp only[go_sem]<;>omega)|fail) only[↓reduceIte,↓AA,Nat.reduceAdd,go_sem,Bool.not_true,Bool.not_false,ls,ry',pt,ne]<;>omega)|assumption|omega))|fail)
   rfl
 |succ n ih=>
  intro i f acc hi hf ha
  have h:i<l.length:=by omega
  have hx:=hv _ (List.getElem_mem h)
  have h32:=hx.1
  have sl:(Az (l.take i)).length≤20*i:=by
   have:=Gu (l:=l.take i) (fun v hm=>hv v (List.mem_of_mem_take hm))
   rw[List.length_take]at this;omega
  have nl:=Af 10 l[i].known.length
  have ls:AO .lss (.int .i64 (i:Int)) (.int .i64 (l.length:Int))=some (.bool true):=by rw[b_lss,decide_eq_true (by omega)]
  have ix:Di 60 (.lst 60 .sh (l.map Be)) (.int .i64 (i:Int))=some (.rop 60 (Be l[i])):=Hw (f:= .sh) (Xa h)
  have l2:=AMa (b:=b) (l:=l) hx (i:=i) (by omega) hf sl (m0:=2) rfl l[i].known.length 0 (acc++l[i].root++Aq l[i].known.length) (by omega) (by
   rw[List.length_append,List.length_append,h32];simp only[Aq];omega)
  have ih':=ih (i+1) (nxF f l[i].sent.length) (acc++Vf l[i]) (by omega) (AGJ _) (by rw[List.length_append];have:=ABf hx;omega)
  have e1:Az (l.take (i+1))=Az (l.take i)++l[i].sent:=by
   rw[←List.take_append_getElem h,Az,Az,List.flatMap_append,List.flatMap_cons,List.flatMap_nil,List.append_nil]
  have e2:acc++l[i].root++Aq l[i].known.length++TI (l[i].known.drop 0)=acc++Vf l[i]:=by
   rw[List.drop_zero,Vf];simp only[List.append_assoc]
  rw[e2,←e1,ih']at l2
  rw[List.drop_eq_getElem_cons h,List.flatMap_cons,←List.append_assoc,←l2,RQ]
  have ln:=VI l[i].known
  have kl:l[i].known.length≤12:=hx.2.1
  have cv:OW .u64 (.int .i64 (l[i].known.length:Int))=some (.int .u64 (l[i].known.length:Int)):=cvI_u64 (by omega) (by omega)
  have oh:=Y1 (a:=b) (b:=Be l[i]) (l:=acc) (x:=l[i].root) h32 (by omega)
  have on:=ACh (a:=b) (b:=Be l[i]) (l:=acc++l[i].root) (x:=l[i].known.length) (by omega) (by rw[List.length_append];omega)
  have n1:∀r,AP [Bh 1,Au r]=[Bh 1,Au r]:=fun r=>by simp only[AP,(V.PF (Au r) (Jy r)).norm,ACP]
  have n2:∀x:Int,AP [Bh 1,V.int .u64 x]=[Bh 1,.int .u64 x]:=fun x=>rfl
  have w:(sS l[i].known).weak=sS l[i].known:=rfl
  clear ih ih' l2 e1 e2 nl hx
  simp only[Be]at ix oh on⊢
  generalize acc++l[i].root++Aq l[i].known.length=acc3 at*
  generalize acc++l[i].root=acc2 at*
  generalize l[i]=v at*
  have st:∀z:V,Cc (BK tVd) 60 ([b,BD .own acc]++[z]) (.ref [b,BD .own acc].length [] 60) (Be v)=some [b,BD .own acc,Be v]:=fun z=>by
   have h1:=ABe v
   have h2:=(V.PF _ (L8 v)).under 3
   simp[Cc,h1,h2,wr,V.upd]
  simp only[Be]at st
  have pr:(Au v.root).pl=true:=Jy _
  have n1':AP [Bh 1,Au v.root]=[Bh 1,Au v.root]:=n1 _
  clear n1 h32 sl hv
  generalize Au v.root=ar at*
  generalize hz:V.agg 54 (List.replicate 32 (V.int .u8 0))=z0 at*
  clear hz
  have pb:Gj (v.bt.map Au)=true:=EZ _
  have pm:Gj (v.sent.map Ac)=true:=Fb _
  have pk:(sS v.known).pl=true:=by simp only[sS,V.pl,KT]
  generalize v.bt.map Au=bb at*
  generalize v.sent.map Ac=mm at*
  generalize (v.known.length:Int)=kk at*
  generalize sS v.known=ss at*
  generalize (l.length:Int)=zl at*
  generalize l.map Be=L at*
  generalize (Az (l.take i)).map Ac=S at*
  refine(AB ls _).trans ?_
  rw[Aj]
  refine(AB ix _).trans ?_
  have ld:∀h,BA h 60 (.rop 60 (.agg tVd [V.int .i64 v.err,V.int .i64 v.pl,.agg tCo [.int .i64 v.wk,.int .i64 v.st,ar,.lst 55 .sh bb],.lst 108 .sh mm,ss]))=some (.agg tVd [V.int .i64 v.err,V.int .i64 v.pl,.agg tCo [.int .i64 v.wk,.int .i64 v.st,ar,.lst 55 .sh bb],.lst 108 .sh mm,ss]):=fun h=>by
   have:=(V.PF (.agg tVd [V.int .i64 v.err,V.int .i64 v.pl,.agg tCo [.int .i64 v.wk,.int .i64 v.st,ar,.lst 55 .sh bb],.lst 108 .sh mm,ss]) (by simp only[V.pl,Gj,pr,pb,pm,pk,Bool.and_self])).weak
   simp only[BA,Aa,if_true,Option.map_some,this]
  refine(AB (ld _) _).trans ?_
  refine(AB (st _) _).trans ?_
  have lr:∀o,Aa [b,o,.agg tVd [V.int .i64 v.err,V.int .i64 v.pl,.agg tCo [.int .i64 v.wk,.int .i64 v.st,ar,.lst 55 .sh bb],.lst 108 .sh mm,ss]] 55 (.ref 2 [2,2] 55)=some ar:=fun _=>rfl
  have l4:∀o,BA [b,o,.agg tVd [V.int .i64 v.err,V.int .i64 v.pl,.agg tCo [.int .i64 v.wk,.int .i64 v.st,ar,.lst 55 .sh bb],.lst 108 .sh mm,ss]] 58 (.ref 2 [4] 58)=some ss:=fun o=>by show some ss.weak=_;rw[w]
  (repeat' with_reducible first|refine(Aj _ _).trans ?_|refine(Ak _ _).trans ?_|refine(AA _ _).trans ?_|((first|(refine' (AB ?_ _).trans ?_;rotate_left)|refine(if_pos ?_).trans ?_|refine(AX ?_ _ _).trans ?_);focus (first|rfl|(simp(disch:=first|assumption|omega|with_reducible rfl|(simp only[go_sem]<;>omega)|fail) only[↓reduceIte,↓AA,Nat.reduceAdd,go_sem,Bool.not_true,Bool.not_false,n1',n2,oh,on,ln,cv,w,lr,l4]<;>first|rfl|omega)|assumption|omega))|(refine(AQ ?_ _ _).trans ?_;focus (first|(simp(disch:=first|assumption|omega|with_reducible rfl|(simp only[go_sem]<;>omega)|fail) only[↓reduceIte,↓AA,Nat.reduceAdd,go_sem,Bool.not_true,Bool.not_false,n1',n2,oh,on,ln,cv,w,lr,l4]<;>omega)|assumption|omega))|fail)
  rfl
def okA (b:Bk) (l:List Vd):Bool:=decide (l.length=b.roots.length)&&(!l.any EU&&decide (0≤b.step))
def Qs (b:Bk) (l:List Vd):List UInt8:=Aq 65++Aq b.step.toNat++l.flatMap Vf
theorem Y9 {b:Bk} {l:List Vd} (hr:b.roots.length≤8) (h64:b.step<9223372036854775808) (hl:l.length≤8) (hv:∀v∈l,KZ v):
 Cl 17 [vB b,.lst 60 .sh (l.map Be)] []=some (if okA b l=true then AI4 (Qs b l) (Az l)else .tup [.str [],.int .i64 170],[]):=by
 have L1:=Bc 60 .sh Be l
 have L2:=Bc 55 .sh Au b.roots
 have an:=AI1 (vB b) (l:=l) (by omega)
 have n2:AP [V.lst 60 .sh (l.map Be),NC]=[V.lst 60 .sh (l.map Be),NC]:=rfl
 by_cases h1:l.length=b.roots.length
 rotate_left
 ·have ne:AO .neq (.int .i64 (l.length:Int)) (.int .i64 (b.roots.length:Int))=some (.bool true):=by
   rw[b_neq]
   have:¬(l.length:Int)=(b.roots.length:Int):=by omega
   simp[this]
  rw[okA,decide_eq_false h1,Bool.false_and,if_neg (by simp),UI]
  simp only[vB,Jc]at an⊢
  generalize (l.length:Int)=z at*
  generalize l.map Be=L at*
  generalize (b.roots.length:Int)=zr at*
  (repeat' with_reducible first|refine(Aj _ _).trans ?_|refine(Ak _ _).trans ?_|refine(AA _ _).trans ?_|((first|(refine' (AB ?_ _).trans ?_;rotate_left)|refine(if_pos ?_).trans ?_|refine(AX ?_ _ _).trans ?_);focus (first|rfl|(simp(disch:=first|assumption|omega|with_reducible rfl|(simp only[go_sem]<;>omega)|fail) only[↓reduceIte,↓AA,Nat.reduceAdd,go_sem,Bool.not_true,Bool.not_false,L1,L2,ne]<;>first|rfl|omega)|assumption|omega))|(refine(AQ ?_ _ _).trans ?_;focus (first|(simp(disch:=first|assumption|omega|with_reducible rfl|(simp only[go_sem]<;>omega)|fail) only[↓reduceIte,↓AA,Nat.reduceAdd,go_sem,Bool.not_true,Bool.not_false,L1,L2,ne]<;>omega)|assumption|omega))|fail)
  rfl
 have ne:AO .neq (.int .i64 (l.length:Int)) (.int .i64 (b.roots.length:Int))=some (.bool false):=by rw[b_neq];simp[h1]
 by_cases h2:l.any EU=true
 ·rw[h2]at an
  rw[okA,h2,Bool.not_true,Bool.false_and,Bool.and_false,if_neg (by simp),UI]
  simp only[vB,Jc]at an⊢
  clear h2 hv
  generalize (l.length:Int)=z at*
  generalize l.map Be=L at*
  generalize (b.roots.length:Int)=zr at*
  (repeat' with_reducible first|refine(Aj _ _).trans ?_|refine(Ak _ _).trans ?_|refine(AA _ _).trans ?_|((first|(refine' (AB ?_ _).trans ?_;rotate_left)|refine(if_pos ?_).trans ?_|refine(AX ?_ _ _).trans ?_);focus (first|rfl|(simp(disch:=first|assumption|omega|with_reducible rfl|(simp only[go_sem]<;>omega)|fail) only[↓reduceIte,↓AA,Nat.reduceAdd,go_sem,Bool.not_true,Bool.not_false,L1,L2,ne,n2,an]<;>first|rfl|omega)|assumption|omega))|(refine(AQ ?_ _ _).trans ?_;focus (first|(simp(disch:=first|assumption|omega|with_reducible rfl|(simp only[go_sem]<;>omega)|fail) only[↓reduceIte,↓AA,Nat.reduceAdd,go_sem,Bool.not_true,Bool.not_false,L1,L2,ne,n2,an]<;>omega)|assumption|omega))|fail)
  rfl
 have h2':l.any EU=false:=by simpa using h2
 rw[h2']at an
 by_cases h3:0≤b.step
 rotate_left
 ·have ls:AO .lss (.int .i64 b.step) (.int .i64 0)=some (.bool true):=by rw[b_lss,decide_eq_true (by omega)]
  rw[okA,decide_eq_false h3,Bool.and_false,Bool.and_false,if_neg (by simp),UI]
  simp only[vB,Jc]at an⊢
  clear h2 h2' hv
  generalize (l.length:Int)=z at*
  generalize l.map Be=L at*
  generalize (b.roots.length:Int)=zr at*
  (repeat' with_reducible first|refine(Aj _ _).trans ?_|refine(Ak _ _).trans ?_|refine(AA _ _).trans ?_|((first|(refine' (AB ?_ _).trans ?_;rotate_left)|refine(if_pos ?_).trans ?_|refine(AX ?_ _ _).trans ?_);focus (first|rfl|(simp(disch:=first|assumption|omega|with_reducible rfl|(simp only[go_sem]<;>omega)|fail) only[↓reduceIte,↓AA,Nat.reduceAdd,go_sem,Bool.not_true,Bool.not_false,L1,L2,ne,n2,an,ls]<;>first|rfl|omega)|assumption|omega))|(refine(AQ ?_ _ _).trans ?_;focus (first|(simp(disch:=first|assumption|omega|with_reducible rfl|(simp only[go_sem]<;>omega)|fail) only[↓reduceIte,↓AA,Nat.reduceAdd,go_sem,Bool.not_true,Bool.not_false,L1,L2,ne,n2,an,ls]<;>omega)|assumption|omega))|fail)
  rfl
 have ls:AO .lss (.int .i64 b.step) (.int .i64 0)=some (.bool false):=by rw[b_lss,decide_eq_false (by omega)]
 have l0:=AMb (b:=vB b) hl hv l.length 0 .nil (Aq 65++Aq b.step.toNat) (by omega) (Or.inr rfl) (by
  have a:=Af 10 65;have c:=Af 10 b.step.toNat
  rw[List.length_append];simp only[Aq];omega)
 rw[List.take_zero,List.drop_zero]at l0
 have e0:(Az []).map Ac=[]:=rfl
 rw[e0]at l0
 have cv:OW .u64 (.int .i64 b.step)=some (.int .u64 b.step):=cvI_u64 (by omega) (by omega)
 have o1:=IQ (a:=vB b) (f:= .nil) (l:=[]) (x:=65) AFn (by omega) (by omega) (by simp)
 have o2:=IQ (a:=vB b) (f:= .own) (l:=Aq 65) (x:=b.step) IU h3 (by omega) (by have:=Af 10 65;simp only[Aq];omega)
 have no:=XH (vB b)
 rw[List.nil_append]at o1
 have e65:(65:Int).toNat=65:=rfl
 rw[e65]at o1
 have n3:∀x:Int,AP [Bh 1,V.int .u64 x]=[Bh 1,.int .u64 x]:=fun x=>rfl
 have n0:AP []=[]:=rfl
 have ok:okA b l=true:=by rw[okA,decide_eq_true h1,h2',decide_eq_true h3];rfl
 rw[if_pos ok,Qs,←l0,UI]
 simp only[vB,Jc]at an no o1 o2⊢
 clear l0 h2 h2' hv ok
 generalize Aq 65++Aq b.step.toNat=x2 at*
 generalize Aq 65=x1 at*
 generalize (l.length:Int)=z at*
 generalize l.map Be=L at*
 generalize (b.roots.length:Int)=zr at*
 (repeat' with_reducible first|refine(Aj _ _).trans ?_|refine(Ak _ _).trans ?_|refine(AA _ _).trans ?_|((first|(refine' (AB ?_ _).trans ?_;rotate_left)|refine(if_pos ?_).trans ?_|refine(AX ?_ _ _).trans ?_);focus (first|rfl|(simp(disch:=first|assumption|omega|with_reducible rfl|(simp only[go_sem]<;>omega)|fail) only[↓reduceIte,↓AA,Nat.reduceAdd,go_sem,Bool.not_true,Bool.not_false,L1,L2,ne,n2,an,ls,no,n3,n0,o1,cv,o2]<;>first|rfl|omega)|assumption|omega))|(refine(AQ ?_ _ _).trans ?_;focus (first|(simp(disch:=first|assumption|omega|with_reducible rfl|(simp only[go_sem]<;>omega)|fail) only[↓reduceIte,↓AA,Nat.reduceAdd,go_sem,Bool.not_true,Bool.not_false,L1,L2,ne,n2,an,ls,no,n3,n0,o1,cv,o2]<;>omega)|assumption|omega))|fail)
 rfl
end
section
open Go AM
def textsIn:Nat→List (List UInt8)→List UInt8→Nat→List (List UInt8)×List UInt8×Nat
 |0,acc,s,e=>(acc,s,e)
 |n+1,acc,s,e=>if e=0 then textsIn n (acc++[(textIn 40 s e).1]) (textIn 40 s e).2.1 (textIn 40 s e).2.2 else(acc,s,e)
theorem TJ (m:Nat) (s:List UInt8) (e:Nat):(textIn m s e).2.1.length≤s.length:=by
 by_cases h:e=0
 ·subst h;exact QC m s
 ·simp[textIn,h]
theorem QF:∀(n:Nat) (acc:List (List UInt8)) (s:List UInt8) (e:Nat),(textsIn n acc s e).2.1.length≤s.length∧(textsIn n acc s e).1.length≤acc.length+n
 |0,_,_,_=>⟨Nat.le_refl _,Nat.le_refl _⟩
 |n+1,acc,s,e=>by
  rw[textsIn]
  split
  ·have:=QF n (acc++[(textIn 40 s e).1]) (textIn 40 s e).2.1 (textIn 40 s e).2.2
   have:=TJ 40 s e
   simp only[List.length_append,List.length_cons,List.length_nil]at*
   omega
  ·exact⟨Nat.le_refl _,by show acc.length≤_;omega⟩
abbrev hA (a0 a1 a2 a3 a4 x a6 a7 a8 a10 o:V):List V:=[a0,a1,a2,a3,a4,x,a6,a7,a8,CQ 5,a10,o]
section
variable {a0 a1 a2 a3 a4 a6 a7 a8 a10 o:V}
theorem ACi {n0:Nat} (h64:n0≤64):∀(m k:Nat) (acc:List (List UInt8)) (s:List UInt8) (e:Nat),k+m=n0→acc.length=k→s.length<4611686018427387904→
 Ue (.ref 9 [] 101) (.int .u64 (n0:Int)) (.lst 9 .own (acc.map V.str)) (.int .u64 (k:Int)) 12 (hA a0 a1 a2 a3 a4 (BG s e) a6 a7 a8 a10 o)=
  some (.lst 9 .non ((textsIn m acc s e).1.map V.str),hA a0 a1 a2 a3 a4 (BG (textsIn m acc s e).2.1 (textsIn m acc s e).2.2) a6 a7 a8 a10 o):=by
 intro m
 have gt:AO .gtr (.int .u64 (n0:Int)) (.int .u64 64)=some (.bool false):=by rw[b_gtr,decide_eq_false (by omega)]
 induction m with
 |zero=>
  intro k acc s e hk ha hs
  have ls:AO .lss (.int .u64 (k:Int)) (.int .u64 (n0:Int))=some (.bool false):=by rw[b_lss,decide_eq_false (by omega)]
  rw[textsIn,JA]
  clear ha hk h64
  generalize acc.map V.str=A at*
  generalize BG s e=x at*
  (repeat' with_reducible first|refine(Aj _ _).trans ?_|refine(Ak _ _).trans ?_|refine(AA _ _).trans ?_|((first|(refine' (AB ?_ _).trans ?_;rotate_left)|refine(if_pos ?_).trans ?_|refine(AX ?_ _ _).trans ?_);focus (first|rfl|(simp(disch:=first|assumption|omega|with_reducible rfl|(simp only[go_sem]<;>omega)|fail) only[↓reduceIte,↓AA,Nat.reduceAdd,go_sem,Bool.not_true,Bool.not_false,ls,gt]<;>first|rfl|omega)|assumption|omega))|(refine(AQ ?_ _ _).trans ?_;focus (first|(simp(disch:=first|assumption|omega|with_reducible rfl|(simp only[go_sem]<;>omega)|fail) only[↓reduceIte,↓AA,Nat.reduceAdd,go_sem,Bool.not_true,Bool.not_false,ls,gt]<;>omega)|assumption|omega))|fail)
  rfl
 |succ m ih=>
  intro k acc s e hk ha hs
  have ls:AO .lss (.int .u64 (k:Int)) (.int .u64 (n0:Int))=some (.bool true):=by rw[b_lss,decide_eq_true (by omega)]
  have le:AO .leq (.int .u64 (n0:Int)) (.int .u64 64)=some (.bool true):=by rw[b_leq,decide_eq_true (by omega)]
  have er:Cl 82 [CQ 5] (hA a0 a1 a2 a3 a4 (BG s e) a6 a7 a8 a10 o)=_:=PZ (id:=5) rfl
  have l9:∀x,Aa (hA a0 a1 a2 a3 a4 x a6 a7 a8 a10 o) 101 (.ref 9 [] 101)=some (CQ 5):=fun x=>BR (Cm rfl)
  have n5:AP [CQ 5]=[CQ 5]:=rfl
  have n6:AP [CQ 5,V.int .i64 40]=[CQ 5,V.int .i64 40]:=rfl
  by_cases he:e=0
  ·subst he
   have eq:AO .eql (.int .i64 ((0:Nat):Int)) (.int .i64 0)=some (.bool true):=rfl
   have tx:Cl 83 [CQ 5,.int .i64 40] (hA a0 a1 a2 a3 a4 (BG s 0) a6 a7 a8 a10 o)=_:=U1 40 (by omega) (id:=5) rfl hs
   have tx':Cl 83 [CQ 5,.int .i64 40] (hA a0 a1 a2 a3 a4 (BG s 0) a6 a7 a8 a10 o)=some (.str (textIn 40 s 0).1,hA a0 a1 a2 a3 a4 (BG (textIn 40 s 0).2.1 (textIn 40 s 0).2.2) a6 a7 a8 a10 o):=tx
   have ad:AO .add (.int .u64 (k:Int)) (.int .u64 1)=some (.int .u64 ((k+1:Nat):Int)):=by rw[DR,wrap_u64 (by omega) (by omega)];rfl
   have ap:∀h:List V,G6 9 AM.tyS false h (.lst 9 .own (acc.map V.str)) (.lst 9 .own [.str (textIn 40 s 0).1])=some (.lst 9 .own ((acc++[(textIn 40 s 0).1]).map V.str)):=fun h=>by
    rw[List.map_append]
    exact Eg (g:= .own) (ys:=[V.str (textIn 40 s 0).1]) (xs:=acc.map V.str) rfl rfl (by simp;omega) _ _ false
   have ih':=ih (k+1) (acc++[(textIn 40 s 0).1]) (textIn 40 s 0).2.1 (textIn 40 s 0).2.2 (by omega) (by simp;omega) (by have:=TJ 40 s 0;omega)
   rw[textsIn,if_pos rfl,←ih',JA]
   clear ha hk h64 ih ih' tx
   generalize (acc++[(textIn 40 s 0).1]).map V.str=A2 at*
   generalize acc.map V.str=A at*
   generalize BG (textIn 40 s 0).2.1 (textIn 40 s 0).2.2=x2 at*
   generalize (textIn 40 s 0).1=t at*
   generalize BG s 0=x at*
   simp only[hA]at*
   generalize CQ 5=r at*
   (repeat' with_reducible first|refine(Aj _ _).trans ?_|refine(Ak _ _).trans ?_|refine(AA _ _).trans ?_|((first|(refine' (AB ?_ _).trans ?_;rotate_left)|refine(if_pos ?_).trans ?_|refine(AX ?_ _ _).trans ?_);focus (first|rfl|(simp(disch:=first|assumption|omega|with_reducible rfl|(simp only[go_sem]<;>omega)|fail) only[↓reduceIte,↓AA,Nat.reduceAdd,go_sem,Bool.not_true,Bool.not_false,ls,le,er,l9,n5,n6,eq,tx',ad,ap,gt]<;>first|rfl|omega)|assumption|omega))|(refine(AQ ?_ _ _).trans ?_;focus (first|(simp(disch:=first|assumption|omega|with_reducible rfl|(simp only[go_sem]<;>omega)|fail) only[↓reduceIte,↓AA,Nat.reduceAdd,go_sem,Bool.not_true,Bool.not_false,ls,le,er,l9,n5,n6,eq,tx',ad,ap,gt]<;>omega)|assumption|omega))|fail)
   rfl
  ·have eq:AO .eql (.int .i64 (e:Int)) (.int .i64 0)=some (.bool false):=by rw[b_eql,decide_eq_false (by omega)]
   rw[textsIn,if_neg he,JA]
   clear ha hk h64 ih he
   generalize acc.map V.str=A at*
   generalize BG s e=x at*
   simp only[hA]at*
   generalize CQ 5=r at*
   (repeat' with_reducible first|refine(Aj _ _).trans ?_|refine(Ak _ _).trans ?_|refine(AA _ _).trans ?_|((first|(refine' (AB ?_ _).trans ?_;rotate_left)|refine(if_pos ?_).trans ?_|refine(AX ?_ _ _).trans ?_);focus (first|rfl|(simp(disch:=first|assumption|omega|with_reducible rfl|(simp only[go_sem]<;>omega)|fail) only[↓reduceIte,↓AA,Nat.reduceAdd,go_sem,Bool.not_true,Bool.not_false,ls,le,er,l9,n5,n6,eq,gt]<;>first|rfl|omega)|assumption|omega))|(refine(AQ ?_ _ _).trans ?_;focus (first|(simp(disch:=first|assumption|omega|with_reducible rfl|(simp only[go_sem]<;>omega)|fail) only[↓reduceIte,↓AA,Nat.reduceAdd,go_sem,Bool.not_true,Bool.not_false,ls,le,er,l9,n5,n6,eq,gt]<;>omega)|assumption|omega))|fail)
   rfl
def BJ (s:List UInt8) (e:Nat):Option (List (List UInt8))×List UInt8×Nat:=
 if 64<(AU s e).1 then(none,(AU s e).2)else
  let t:=textsIn (AU s e).1 [] (AU s e).2.1 (AU s e).2.2
  (some t.1,t.2)
def vLv:Option (List (List UInt8))→V
 |none=> .lst 9 .nil []
 |some l=> .lst 9 .non (l.map V.str)
theorem ACj {s:List UInt8} {e:Nat} (hs:s.length<4611686018427387904):Cl 81 [.ref 9 [] 101] (hA a0 a1 a2 a3 a4 (BG s e) a6 a7 a8 a10 o)=
 some (vLv (BJ s e).1,hA a0 a1 a2 a3 a4 (BG (BJ s e).2.1 (BJ s e).2.2) a6 a7 a8 a10 o):=by
 have l9:∀x,Aa (hA a0 a1 a2 a3 a4 x a6 a7 a8 a10 o) 101 (.ref 9 [] 101)=some (CQ 5):=fun x=>BR (Cm rfl)
 have n5:AP [CQ 5]=[CQ 5]:=rfl
 have nm:Cl 55 [CQ 5] (hA a0 a1 a2 a3 a4 (BG s e) a6 a7 a8 a10 o)=some (.int .u64 ((AU s e).1:Int),hA a0 a1 a2 a3 a4 (BG (AU s e).2.1 (AU s e).2.2) a6 a7 a8 a10 o):=He (id:=5) rfl hs
 have nl:=EY s e
 by_cases h:64<(AU s e).1
 ·have gt:AO .gtr (.int .u64 ((AU s e).1:Int)) (.int .u64 64)=some (.bool true):=by rw[b_gtr,decide_eq_true (by omega)]
  have ls:AO .lss (.int .u64 0) (.int .u64 ((AU s e).1:Int))=some (.bool true):=by rw[b_lss,decide_eq_true (by omega)]
  have le:AO .leq (.int .u64 ((AU s e).1:Int)) (.int .u64 64)=some (.bool false):=by rw[b_leq,decide_eq_false (by omega)]
  rw[BJ,if_pos h,AEi]
  clear h nl
  generalize (AU s e).1=n at*
  show _=some (V.lst 9 .nil [],hA a0 a1 a2 a3 a4 (BG (AU s e).2.1 (AU s e).2.2) a6 a7 a8 a10 o)
  generalize BG (AU s e).2.1 (AU s e).2.2=x2 at*
  generalize BG s e=x at*
  simp only[hA]at*
  generalize CQ 5=r at*
  (repeat' with_reducible first|refine(Aj _ _).trans ?_|refine(Ak _ _).trans ?_|refine(AA _ _).trans ?_|((first|(refine' (AB ?_ _).trans ?_;rotate_left)|refine(if_pos ?_).trans ?_|refine(AX ?_ _ _).trans ?_);focus (first|rfl|(simp(disch:=first|assumption|omega|with_reducible rfl|(simp only[go_sem]<;>omega)|fail) only[↓reduceIte,↓AA,Nat.reduceAdd,go_sem,Bool.not_true,Bool.not_false,l9,n5,nm]<;>first|rfl|omega)|assumption|omega))|(refine(AQ ?_ _ _).trans ?_;focus (first|(simp(disch:=first|assumption|omega|with_reducible rfl|(simp only[go_sem]<;>omega)|fail) only[↓reduceIte,↓AA,Nat.reduceAdd,go_sem,Bool.not_true,Bool.not_false,l9,n5,nm]<;>omega)|assumption|omega))|fail)
  rw[JA]
  (repeat' with_reducible first|refine(Aj _ _).trans ?_|refine(Ak _ _).trans ?_|refine(AA _ _).trans ?_|((first|(refine' (AB ?_ _).trans ?_;rotate_left)|refine(if_pos ?_).trans ?_|refine(AX ?_ _ _).trans ?_);focus (first|rfl|(simp(disch:=first|assumption|omega|with_reducible rfl|(simp only[go_sem]<;>omega)|fail) only[↓reduceIte,↓AA,Nat.reduceAdd,go_sem,Bool.not_true,Bool.not_false,ls,le,gt]<;>first|rfl|omega)|assumption|omega))|(refine(AQ ?_ _ _).trans ?_;focus (first|(simp(disch:=first|assumption|omega|with_reducible rfl|(simp only[go_sem]<;>omega)|fail) only[↓reduceIte,↓AA,Nat.reduceAdd,go_sem,Bool.not_true,Bool.not_false,ls,le,gt]<;>omega)|assumption|omega))|fail)
  rfl
 ·have lp:=ACi (a0:=a0) (a1:=a1) (a2:=a2) (a3:=a3) (a4:=a4) (a6:=a6) (a7:=a7) (a8:=a8) (a10:=a10) (o:=o) (n0:=(AU s e).1) (by omega) (AU s e).1 0 [] (AU s e).2.1 (AU s e).2.2 (by omega) rfl (by omega)
  rw[BJ,if_neg h]
  simp only[vLv]
  rw[←lp,AEi]
  clear h nl lp
  generalize (AU s e).1=n at*
  generalize BG (AU s e).2.1 (AU s e).2.2=x2 at*
  generalize BG s e=x at*
  simp only[hA]at*
  generalize CQ 5=r at*
  (repeat' with_reducible first|refine(Aj _ _).trans ?_|refine(Ak _ _).trans ?_|refine(AA _ _).trans ?_|((first|(refine' (AB ?_ _).trans ?_;rotate_left)|refine(if_pos ?_).trans ?_|refine(AX ?_ _ _).trans ?_);focus (first|rfl|(simp(disch:=first|assumption|omega|with_reducible rfl|(simp only[go_sem]<;>omega)|fail) only[↓reduceIte,↓AA,Nat.reduceAdd,go_sem,Bool.not_true,Bool.not_false,l9,n5,nm]<;>first|rfl|omega)|assumption|omega))|(refine(AQ ?_ _ _).trans ?_;focus (first|(simp(disch:=first|assumption|omega|with_reducible rfl|(simp only[go_sem]<;>omega)|fail) only[↓reduceIte,↓AA,Nat.reduceAdd,go_sem,Bool.not_true,Bool.not_false,l9,n5,nm]<;>omega)|assumption|omega))|fail)
  rfl
end
end
end Go.Proofs.YtiegkempfolgcaaGreatDoor
