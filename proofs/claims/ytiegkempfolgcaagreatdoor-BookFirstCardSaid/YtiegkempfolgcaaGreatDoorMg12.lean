/-
  Part of the proof of a statement about the given program: an abstract machine over its code, the simulation, its functions' equations, what they compute.
-/
import Derived.Test.YtiegkempfolgcaaGreatDoorMg10
import Derived.Test.YtiegkempfolgcaaGreatDoorMg11
import Derived.Test.YtiegkempfolgcaaGreatDoorMg4
import Derived.Test.YtiegkempfolgcaaGreatDoorMg5
import Derived.Test.YtiegkempfolgcaaGreatDoorMg8
import Derived.Test.YtiegkempfolgcaaGreatDoorMg9
set_option linter.unusedVariables false
set_option linter.unusedSimpArgs false
set_option linter.unusedSectionVars false
set_option maxRecDepth 100000
noncomputable section
namespace Go.Proofs.YtiegkempfolgcaaGreatDoor
section
open Go AM
namespace Ed
structure Edg where
 fr:Nat
 to:Nat
 w:Int
 hf:fr<64
 ht:to<64
instance:Inhabited Edg:=⟨⟨0,0,0,by omega,by omega⟩⟩
def vEdg (e:Edg):V:= .agg 111 [.int .i64 (e.fr:Int),.int .i64 (e.to:Int),.int .i64 e.w]
def cmpE (x y:Edg):Int:=if x.fr=y.fr then(x.to:Int)-y.to else(x.fr:Int)-y.fr
def ltE (x y:Edg):Bool:=decide (cmpE x y<0)
@[go_sem] theorem AHQ (x:Edg):(vEdg x).pl=true:=(rfl)
@[go_sem] theorem AGH (x:Edg):BA 111 (vEdg x)=true:=MH ..
theorem compare_am (x y:Edg):Cl 91 [vEdg x,vEdg y] []=some (.int .i64 (cmpE x y),[]):=by
 have h1:=x.hf;have h2:=x.ht;have h3:=y.hf;have h4:=y.ht
 rw[ADo,cmpE]
 by_cases h:x.fr=y.fr
 ·rw[if_pos h]
  simp only[vEdg]
  simp(disch:=first|assumption|omega|(with_reducible rfl)|(simp only[go_sem];done)|(simp only[go_sem];omega)|fail) only[↓reduceIte,↓AL,Nat.reduceAdd,go_sem,h]
 ·rw[if_neg h]
  have:¬(x.fr:Int)=(y.fr:Int):=by omega
  simp only[vEdg]
  simp(disch:=first|assumption|omega|(with_reducible rfl)|(simp only[go_sem];done)|(simp only[go_sem];omega)|fail) only[↓reduceIte,↓AL,Nat.reduceAdd,go_sem]
theorem ltE_iff (x y:Edg):ltE x y=true↔(x.fr<y.fr∨x.fr=y.fr∧x.to<y.to):=by
 rw[ltE,decide_eq_true_eq,cmpE]
 by_cases h:x.fr=y.fr
 ·rw[if_pos h];constructor<;>intro k<;>omega
 ·rw[if_neg h];constructor<;>intro k<;>omega
theorem ltE_iff' (x y:Edg):ltE x y=false↔¬(x.fr<y.fr∨x.fr=y.fr∧x.to<y.to):=by
 rw[←ltE_iff,Bool.not_eq_true]
abbrev cm:V:= .clo 91 []
def rowM (d:Array Edg):V:= .row 112 (d.toList.map vEdg)
def winM (id n:Nat):V:= .win id [] 0 n 112
def WA (e:Edg):Int×Int×Int:=(e.fr,e.to,e.w)
theorem ZO {α β:Type} (f:α→β) {r s:List β} (h:r.Perm s):∀l:List α,l.map f=s→∃l':List α,l'.Perm l∧l'.map f=r:=by
 induction h with
 |nil=>intro l hl;exact⟨l,List.Perm.refl _,hl⟩
 |cons x h ih=>
  intro l hl
  match l,hl with
  |y::l,hl=>
   simp only[List.map_cons,List.cons.injEq]at hl
   obtain⟨l',h1,h2⟩:=ih l hl.2
   exact⟨y::l',h1.cons y,by rw[List.map_cons,hl.1,h2]⟩
 |swap x y r=>
  intro l hl
  match l,hl with
  |a::b::l,hl=>
   simp only[List.map_cons,List.cons.injEq]at hl
   exact⟨b::a::l,List.Perm.swap a b l,by simp[hl]⟩
 |trans h1 h2 ih1 ih2=>
  intro l hl
  obtain⟨l1,a1,a2⟩:=ih2 l hl
  obtain⟨l2,b1,b2⟩:=ih1 l1 a2
  exact⟨l2,b1.trans a1,b2⟩
theorem P9 (l:List Edg):∃l':List Edg,l'.Perm l∧l'.map WA=Dy 1 (l.map WA):=ZO WA (GZ 1 _) l rfl
def srtL (l:List Edg):List Edg:=Classical.choose (P9 l)
theorem srtL_perm (l:List Edg):(srtL l).Perm l:=(Classical.choose_spec (P9 l)).1
theorem SG (l:List Edg):(srtL l).map WA=Dy 1 (l.map WA):=(Classical.choose_spec (P9 l)).2
theorem Ub (x:Edg):N9 1 (WA x)=true:=by
 have:=x.hf;have:=x.ht
 refine Bool.or_eq_true_iff.2 (Or.inr ?_)
 simp only[Bool.and_eq_true,WA]
 refine⟨⟨⟨?_,?_⟩,?_⟩,?_⟩<;>exact decide_eq_true (by omega)
theorem AEG (x y:Edg):decide (UA 1 (WA x) (WA y)<0)=ltE x y:=by
 rw[Bool.eq_iff_iff,decide_eq_true_eq,ltE_iff]
 unfold UA cl3
 rw[if_pos (Ub x),if_pos (Ub y),ACu (by rfl)]
 simp only[WA];omega
theorem srtL_sorted (l:List Edg):(srtL l).Pairwise (fun a b=>ltE b a=false):=by
 have h:=(ZM 1 (l.map WA)).2
 rw[←SG]at h
 rw[List.pairwise_iff_getElem]
 intro i j hi hj hij
 have hlen:=(srtL_perm l).length_eq
 have:=h i j (Nat.zero_le _) hij (by simp;omega)
 simp only[List.getElem!_toArray,List.getElem!_eq_getElem?_getD,List.getElem?_map,List.getElem?_eq_getElem hi,List.getElem?_eq_getElem hj,Option.map_some,Option.getD_some]at this
 rw[AEG]at this
 exact this
theorem ZP (u:TypeId):∀l:List Edg,(l.map vEdg).all (i3t 111)=true
 |[]=>rfl
 |x::l=>by rw[List.map_cons,List.all_cons,ZP u l];rfl
theorem ACv:∀l:List Edg,(l.map vEdg).all (fun x=>N9 1 (t3 x))=true
 |[]=>rfl
 |x::l=>by rw[List.map_cons,List.all_cons,ACv l,Bool.and_true];exact Ub x
theorem AGI (l:List Edg):(l.map vEdg).map t3=l.map WA:=by rw[List.map_map];rfl
theorem AGJ (l:List Edg):(l.map WA).map (VD 111)=l.map vEdg:=by rw[List.map_map];rfl
theorem sort_aps {h:List V} {id:Nat} {l:List Edg} (hh:h[id]?=some (rowM l.toArray)) (hl:l.length≤1000000):
 aps 1000091 112 [winM id l.length,cm] h=some (.tup [],h.set id (rowM (srtL l).toArray)):=by
 have hd:1000091/1000000=1:=rfl
 have tg:(l.map vEdg).all (i3t (UF (l.map vEdg)))=true:=by
  cases l with
  |nil=>rfl
  |cons x l=>exact ZP 0 (x::l)
 have mk:((Dy 1 (l.map WA)).map (VD (UF (l.map vEdg))))=(srtL l).map vEdg:=by
  rw[←SG]
  cases l with
  |nil=>rw[List.perm_nil.1 (srtL_perm [])];rfl
  |cons x l=>exact AGJ _
 simp only[aps,winM,rowM]at hh⊢
 have e1:Nat.beq l.length (l.map vEdg).length=true:=by simp
 have e2:Nat.ble (l.map vEdg).length C9=true:=by simp[C9,Nat.ble_eq];omega
 simp only[hh,hd]
 rw[if_pos (by simp only[tg,ACv,e1,e2];rfl),AGI,mk]
end Ed
end
section
open Go AM
structure E0 where
 fr:Int
 to:Int
 w:Int
 deriving DecidableEq
abbrev tE:TypeId:=111
def Gx (e:E0):V:= .agg tE [.int .i64 e.fr,.int .i64 e.to,.int .i64 e.w]
@[go_sem] theorem AIX (x:E0):(Gx x).pl=true:=(rfl)
@[go_sem] theorem QA (l:List E0):HY (l.map Gx)=true:=Cb (fun _=>rfl) l
@[go_sem] theorem WB (x:E0):BA tE (Gx x)=true:=MH ..
theorem WC {l:List E0} {i:Nat} (h:i<l.length):(l.map Gx)[i]?=some (Gx l[i]):=by simp[h]
structure Grf where
 n:Int
 es:List E0
abbrev vG (f:Fl) (g:Grf):V:= .agg 23 [.int .i64 g.n,.lst 112 f (g.es.map Gx)]
def EW (n:Int) (e:E0):Bool:=decide (e.fr<0)||decide (n≤e.fr)||decide (e.to<0)||decide (n≤e.to)||decide (e.w<0)||decide (1048576<e.w)
abbrev rG:V:= .ref 0 [] 24
theorem AEH (n:Int) (l:V) (e:E0):Cl 87 [Gx e,rG] [.agg 23 [.int .i64 n,l]]=some (.bool (EW n e),[.agg 23 [.int .i64 n,l]]):=by
 rw[ADk]
 simp only[Gx]
 repeat' first|rfl|refine SC (fun _=> ?_) (fun _=> ?_)|refine SE (fun _=> ?_) (fun _=> ?_)|simp(disch:=first|assumption|omega|(with_reducible rfl)|(simp only[go_sem];done)|(simp only[go_sem];omega)|fail) only[↓reduceIte,↓AL,Nat.reduceAdd,go_sem]
 all_goals (simp_all [EW]<;>omega)
abbrev ABY:V:= .clo 87 [rG]
theorem AGK {R:Type} (n:Int) (l:V) (e:E0) (k:V→List V→Option R):CP P CZ W ABY [Gx e] [.agg 23 [.int .i64 n,l]] k=k (.bool (EW n e)) [.agg 23 [.int .i64 n,l]]:=
 Oj k (by kernel_rfl) (by kernel_rfl) (AEH n l e)
def JG {α:Type} (p:α→Bool):Nat→List α→Int
 |_,[]=> -1
 |i,x::l=>if p x=true then(i:Int)else JG p (i+1) l
theorem SH {α:Type} (p:α→Bool):∀(l:List α) (i:Nat),0≤JG p i l↔l.any p=true
 |[],i=>by simp[JG]
 |x::l,i=>by
  rw[JG,List.any_cons]
  by_cases h:p x=true
  ·rw[if_pos h,h];simp
  ·rw[if_neg h,SH p l (i+1)];simp[h]
theorem WE {α:Type} (p:α→Bool) (l:List α) (i:Nat):decide (0≤JG p i l)=l.any p:=by
 rw[Bool.eq_iff_iff,decide_eq_true_eq];exact SH p l i
theorem ABZ (n:Int) (L:V) (es:List E0) (hl:es.length<1000000) (f:Fl):∀(m i:Nat),i+m=es.length→
 Jv (.lst 112 f (es.map Gx)) ABY (.int .i64 (es.length:Int)) (.int .i64 (i:Int)) 1 [.agg 23 [.int .i64 n,L]]=
  some (.int .i64 (JG (EW n) i (es.drop i)),[.agg 23 [.int .i64 n,L]]):=by
 intro m
 induction m with
 |zero=>
  intro i hi
  rw[List.drop_eq_nil_of_le (by omega),Ku]
  simp(disch:=first|assumption|omega|(with_reducible rfl)|(simp only[go_sem];done)|(simp only[go_sem];omega)|fail) only[↓reduceIte,↓AL,Nat.reduceAdd,go_sem,JG]
 |succ m ih=>
  intro i hi
  have h:i<es.length:=by omega
  have:=ih (i+1) (by omega)
  rw[List.drop_eq_getElem_cons h,JG,Ku]
  by_cases ho:EW n es[i]=true
  ·rw[if_pos ho]
   simp(disch:=first|assumption|omega|(with_reducible rfl)|(simp only[go_sem];done)|(simp only[go_sem];omega)|fail) only[↓reduceIte,↓AL,Nat.reduceAdd,go_sem,WC h,AGK,ho]
  ·rw[if_neg ho,←this]
   simp(disch:=first|assumption|omega|(with_reducible rfl)|(simp only[go_sem];done)|(simp only[go_sem];omega)|fail) only[↓reduceIte,↓AL,Nat.reduceAdd,go_sem,WC h,AGK,ho]
theorem ABa (n:Int) (L:V) {es:List E0} (hl:es.length<1000000) (f:Fl):Cl 88 [.lst 112 f (es.map Gx),ABY] [.agg 23 [.int .i64 n,L]]=some (.bool (es.any (EW n)),[.agg 23 [.int .i64 n,L]]):=by
 have h:=fun f=>ABZ n L es hl f es.length 0 (by omega)
 simp only[c0,List.drop_zero]at h
 have ix:∀f,Cl 112 [.lst 112 f (es.map Gx),ABY] [.agg 23 [.int .i64 n,L]]=some (.int .i64 (JG (EW n) 0 es),[.agg 23 [.int .i64 n,L]]):=fun f=>by
  rw[←h f,AAs]
  simp(disch:=first|assumption|omega|(with_reducible rfl)|(simp only[go_sem];done)|(simp only[go_sem];omega)|fail) only[↓reduceIte,↓AL,Nat.reduceAdd,go_sem]
 rw[ADl,←WE (EW n) es 0]
 simp(disch:=first|assumption|omega|(with_reducible rfl)|(simp only[go_sem];done)|(simp only[go_sem];omega)|fail) only[↓reduceIte,↓AL,Nat.reduceAdd,go_sem,ix]
def ZQ (n:Int) (e:E0) (h:EW n e=false) (hn:n≤64):Ed.Edg:=⟨e.fr.toNat,e.to.toNat,e.w,by simp[EW]at h;omega,by simp[EW]at h;omega⟩
theorem ZR {n:Int} (hn:n≤64):∀es:List E0,es.any (EW n)=false→∃l:List Ed.Edg,l.map Ed.vEdg=es.map Gx∧l.map (fun x=>((x.fr:Int),(x.to:Int)))=es.map fun e=>(e.fr,e.to)
 |[],_=>⟨[],rfl,rfl⟩
 |e::es,h=>by
  rw[List.any_cons,Bool.or_eq_false_iff]at h
  obtain⟨l,h1,h2⟩:=ZR hn es h.2
  have hb:=h.1
  simp only[EW,Bool.or_eq_false_iff,decide_eq_false_iff_not]at hb
  refine⟨ZQ n e h.1 hn::l,?_,?_⟩
  ·rw[List.map_cons,List.map_cons,h1,Ed.vEdg,Gx,ZQ]
   simp only[]
   rw[show(e.fr.toNat:Int)=e.fr by omega,show(e.to.toNat:Int)=e.to by omega]
  ·rw[List.map_cons,List.map_cons,h2,ZQ]
   simp only[]
   rw[show(e.fr.toNat:Int)=e.fr by omega,show(e.to.toNat:Int)=e.to by omega]
abbrev Ns (f:Fl) (l:List Ed.Edg):V:= .lst 112 f (l.map Ed.vEdg)
def DL (l:List Ed.Edg):List Ed.Edg:=Ed.srtL l
theorem MK (l:List Ed.Edg):(DL l).Perm l:=Ed.srtL_perm l
theorem Om (l:List Ed.Edg):(DL l).length=l.length:=(MK l).length_eq
theorem XK (a:V) (f:Fl) (l:List Ed.Edg):Cl 90 [Ns .sh l] [a]=some (.clo 115 [.ref 1 [] 22],[a,Ns .sh l]):=by
 rw[ADn]
 simp(disch:=first|assumption|omega|(with_reducible rfl)|(simp only[go_sem];done)|(simp only[go_sem];omega)|fail) only[↓reduceIte,↓AL,Nat.reduceAdd,go_sem]
 rfl
theorem AEI (l:List Ed.Edg):(l.map Ed.vEdg).all i3=true:=by simp[Ed.vEdg,i3]
theorem Uc (a:V) {l:List Ed.Edg} (hl:l.length≤1000000):Cl 113 [.clo 115 [.ref 1 [] 22]] [a,Ns .sh l]=some (Ed.winM 2 l.length,[a,Ns .sh l,Ed.rowM l.toArray]):=by
 rw[AAt]
 have ap:aps 115 112 [.lst 112 .nil [],.clo 115 [.ref 1 [] 22]] [a,Ns .sh l]=some (Ed.winM 2 l.length,[a,Ns .sh l,Ed.rowM l.toArray]):=by
  simp only[aps,List.getElem?_cons_succ,List.getElem?_cons_zero,AEI,List.length_map]
  rw[if_pos (by simp[C9,Nat.ble_eq];omega)]
  simp[Ed.winM,Ed.rowM]
 rw[ap];rfl
theorem Ud (a:V) {l:List Ed.Edg} (hl:l.length≤1000000):Cl 89 [.clo 115 [.ref 1 [] 22],Ed.cm] [a,Ns .sh l]=some (Ns .sh (DL l),[a,Ns .sh l]):=by
 have c:=Uc a hl
 have s:aps 1000091 112 [Ed.winM 2 l.length,Ed.cm] [a,Ns .sh l,Ed.rowM l.toArray]=some (.tup [],[a,Ns .sh l,Ed.rowM (DL l).toArray]):=Ed.sort_aps rfl hl
 have ct:Ae [a,Ns .sh l,Ed.rowM (DL l).toArray] (Ed.winM 2 l.length)=some ((DL l).map Ed.vEdg):=by
  simp[Ae,Ed.winM,rd,V.at,V.items,Ed.rowM]
  rw[←Om l];exact List.take_of_length_le (by simp)
 have cl:AQ ((DL l).map Ed.vEdg)=true:=XI (Cb (fun _=>rfl) _)
 have nl:AU ((DL l).map Ed.vEdg)=(DL l).map Ed.vEdg:=ZK (Cb (fun _=>rfl) _)
 have fin:AV 2 [a,Ns .sh l,Ed.rowM (DL l).toArray] (Ed.winM 2 l.length)=some (Ns .sh (DL l),[a,Ns .sh l]):=by
  have u:(Ed.winM 2 l.length).unmut [a,Ns .sh l,Ed.rowM (DL l).toArray]=Ns .sh (DL l):=by
   rw[Ed.winM]at ct⊢
   simp only[V.unmut,ct,cl,nl,if_true]
  simp only[AV,u];rfl
 rw[ADm]
 refine(AB c _).trans ?_
 refine(AB s _).trans ?_
 exact fin
def SI:Ed.Edg→List Ed.Edg→Bool
 |_,[]=>false
 |x,y::r=>decide (Ed.cmpE x y=0)||SI y r
@[go_sem] theorem AHR (l:List Ed.Edg):HY (l.map Ed.vEdg)=true:=Cb (fun _=>rfl) l
theorem QB {l:List Ed.Edg} {i:Nat} (h:i<l.length):(l.map Ed.vEdg)[i]?=some (Ed.vEdg l[i]):=by simp[h]
theorem ABb (a b:V) {l:List Ed.Edg} (hl:l.length≤1000000):∀(n i:Nat) (hi:i<l.length),i+1+n=l.length→
 Ko (Ns .sh l) (.int .i64 ((i+1:Nat):Int)) [a,b]=some (.int .i64 (if SI l[i] (l.drop (i+1))=true then 51 else 0),[]):=by
 intro n
 induction n with
 |zero=>
  intro i hi hn
  rw[List.drop_eq_nil_of_le (by omega),SI,JE]
  simp(disch:=first|assumption|omega|(with_reducible rfl)|(simp only[go_sem];done)|(simp only[go_sem];omega)|fail) only[↓reduceIte,↓AL,Nat.reduceAdd,go_sem]
  rfl
 |succ n ih=>
  intro i hi hn
  have h:i+1<l.length:=by omega
  have:=ih (i+1) h (by omega)
  rw[List.drop_eq_getElem_cons h,SI,JE]
  by_cases hc:Ed.cmpE l[i] l[i+1]=0
  ·rw[decide_eq_true hc,Bool.true_or,if_pos rfl]
   simp(disch:=first|assumption|omega|(with_reducible rfl)|(simp only[go_sem];done)|(simp only[go_sem];omega)|fail) only[↓reduceIte,↓AL,Nat.reduceAdd,go_sem,QB hi,QB h,Ed.compare_am,hc,Nat.add_sub_cancel]
  ·rw[decide_eq_false hc,Bool.false_or,←this]
   simp(disch:=first|assumption|omega|(with_reducible rfl)|(simp only[go_sem];done)|(simp only[go_sem];omega)|fail) only[↓reduceIte,↓AL,Nat.reduceAdd,go_sem,QB hi,QB h,Ed.compare_am,Nat.add_sub_cancel]
def Ih (x:Ed.Edg):Int×Int:=((x.fr:Int),(x.to:Int))
theorem ABc (x y:Ed.Edg):Ed.cmpE x y=0↔Ih x=Ih y:=by
 rw[Ed.cmpE,Ih,Ih,Prod.mk.injEq]
 by_cases h:x.fr=y.fr
 ·rw[if_pos h];omega
 ·rw[if_neg h];omega
theorem SK {x y:Ed.Edg} (h:Ed.ltE y x=false) (hn:Ih x≠Ih y):Ed.ltE x y=true:=by
 rw[Ed.ltE_iff']at h
 rw[Ed.ltE_iff]
 simp only[Ih,ne_eq,Prod.mk.injEq]at hn
 omega
theorem WH:∀(r:List Ed.Edg) (x:Ed.Edg),(x::r).Pairwise (fun a b=>Ed.ltE b a=false)→(SI x r=false↔((x::r).map Ih).Nodup)
 |[],x,_=>by simp[SI]
 |y::r,x,h=>by
  obtain⟨h1,h2⟩:=List.pairwise_cons.1 h
  have ih:=WH r y h2
  rw[SI,Bool.or_eq_false_iff,ih,decide_eq_false_iff_not,ABc,List.map_cons (l:=y::r),List.nodup_cons]
  refine and_congr_left fun hd=>⟨fun hn hm=> ?_,fun hm he=>hm (by rw[he];simp)⟩
  obtain⟨z,hz,he⟩:=List.mem_map.1 hm
  rcases List.mem_cons.1 hz with rfl|hz
  ·exact hn he.symm
  ·have a:=SK (h1 y List.mem_cons_self) hn
   have b:=(List.pairwise_cons.1 h2).1 z hz
   rw[Ed.ltE_iff]at a
   rw[Ed.ltE_iff']at b
   simp only[Ih,Prod.mk.injEq]at he
   omega
theorem QC (l:List Ed.Edg):(DL l).Pairwise (fun a b=>Ed.ltE b a=false):=Ed.srtL_sorted l
def IA (g:Grf):Int:=if 1≤g.n∧g.n≤64∧g.es.length≤512∧g.es.any (EW g.n)=false then(if(g.es.map fun e=>(e.fr,e.to)).Nodup then 0 else 51)else 50
theorem XL {g:Grf} (hl:g.es.length<1000000):Cl 61 [vG .sh g] []=some (.int .i64 (IA g),[]):=by
 have an:=ABa g.n (.lst 112 .sh (g.es.map Gx)) hl .sh
 by_cases h1:g.n<1
 ·rw[IA,if_neg (by omega),Kq]
  simp(disch:=first|assumption|omega|(with_reducible rfl)|(simp only[go_sem];done)|(simp only[go_sem];omega)|fail) only[↓reduceIte,↓AL,Nat.reduceAdd,go_sem]
 by_cases h2:64<g.n
 ·rw[IA,if_neg (by omega),Kq]
  simp(disch:=first|assumption|omega|(with_reducible rfl)|(simp only[go_sem];done)|(simp only[go_sem];omega)|fail) only[↓reduceIte,↓AL,Nat.reduceAdd,go_sem]
 by_cases h3:512<g.es.length
 ·rw[IA,if_neg (by omega),Kq]
  simp(disch:=first|assumption|omega|(with_reducible rfl)|(simp only[go_sem];done)|(simp only[go_sem];omega)|fail) only[↓reduceIte,↓AL,Nat.reduceAdd,go_sem]
 by_cases h4:g.es.any (EW g.n)=true
 ·rw[IA,if_neg (by rw[h4];simp),Kq]
  simp(disch:=first|assumption|omega|(with_reducible rfl)|(simp only[go_sem];done)|(simp only[go_sem];omega)|fail) only[↓reduceIte,↓AL,Nat.reduceAdd,go_sem,an,h4]
 have h4:g.es.any (EW g.n)=false:=by simpa using h4
 obtain⟨l,l1,l2⟩:=ZR (by omega) g.es h4
 have hlen:l.length=g.es.length:=by have:=congrArg List.length l1;simpa using this
 have v:=XK (vG .sh g) .sh l
 have st:=Ud (vG .sh g) (l:=l) (by omega)
 have hsl:=Om l
 have hnd:(g.es.map fun e=>(e.fr,e.to)).Nodup↔((DL l).map Ih).Nodup:=by
  rw[←l2];exact(((MK l).map Ih).nodup_iff).symm
 have so:=QC l
 rw[IA,if_pos ⟨by omega,by omega,by omega,h4⟩]
 have e:(if(g.es.map fun e=>(e.fr,e.to)).Nodup then(0:Int)else 51)=(if((DL l).map Ih).Nodup then(0:Int)else 51):=by
  by_cases hh:(g.es.map fun e=>(e.fr,e.to)).Nodup
  ·rw[if_pos hh,if_pos (hnd.1 hh)]
  ·rw[if_neg hh,if_neg (fun k=>hh (hnd.2 k))]
 rw[e]
 have rest:Ko (Ns .sh (DL l)) (.int .i64 1) [vG .sh g,Ns .sh l]=some (.int .i64 (if((DL l).map Ih).Nodup then(0:Int)else 51),[]):=by
  cases hs:DL l with
  |nil=>
   rw[JE]
   simp(disch:=first|assumption|omega|(with_reducible rfl)|(simp only[go_sem];done)|(simp only[go_sem];omega)|fail) only[↓reduceIte,↓AL,Nat.reduceAdd,go_sem]
   rfl
  |cons x r=>
   have:=ABb (vG .sh g) (Ns .sh l) (l:=x::r) (by rw[←hs];omega) r.length 0 (by simp) (by simp;omega)
   simp only[Nat.zero_add,c1,List.getElem_cons_zero,List.drop_succ_cons,List.drop_zero]at this
   rw[this]
   rw[hs]at so
   have ai:=WH r x so
   by_cases hh:((x::r).map Ih).Nodup
   ·rw[if_pos hh,if_neg (by rw[ai.2 hh];simp)]
   ·rw[if_neg hh,if_pos (by cases ha:SI x r with
     |true=>rfl
     |false=>exact absurd (ai.1 ha) hh)]
 have l3:l.length≤512:=by omega
 simp only[vG,←l1]at an v st rest⊢
 rw[Kq]
 generalize DL l=s at*
 simp(disch:=first|assumption|omega|(with_reducible rfl)|(simp only[go_sem];done)|(simp only[go_sem];omega)|fail) only[↓reduceIte,↓AL,Nat.reduceAdd,go_sem,an,h4,v,st,rest]
end
section
open Go AM
def I64 (n:Int):Prop:= -9223372036854775808≤n∧n<9223372036854775808
end
section
open Go AM
structure Vtx where
 id:Int
 val:Int
 act:Bool
 has:Bool
 inn:Int
 deriving DecidableEq
def VOk (x:Vtx):Prop:=I64 x.id∧I64 x.val∧I64 x.inn
abbrev tVx:TypeId:=80
def Dc (x:Vtx):V:= .agg tVx [.int .i64 x.id,.int .i64 x.val,.bool x.act,.bool x.has,.int .i64 x.inn]
@[go_sem] theorem AEJ (x:Vtx):(Dc x).pl=true:=(rfl)
@[go_sem] theorem KL (l:List Vtx):HY (l.map Dc)=true:=Cb (fun _=>rfl) l
@[go_sem] theorem ABd (x:Vtx):BA tVx (Dc x)=true:=MH ..
@[go_sem] theorem AHS (l:List Vtx):(l.map Dc).all (BA tVx)=true:=all_map (fun _=>MH ..) l
theorem AGL {l:List Vtx} {i:Nat} (h:i<l.length):(l.map Dc)[i]?=some (Dc l[i]):=by simp[h]
end
section
open Go AM
abbrev iv (n:Nat):V:= .int .i64 (n:Int)
theorem AGM {B:Type} {h:List V} {x:Int} (h0:0≤x) (h1:x<9223372036854775808) (K:V→Option B):(conv P h 3 93 (.int .i64 x)).bind K=K (.int .u64 (x.toNat:Int)):=by
 refine(AB (CV Pj ..) _).trans ?_
 rw[wrap_u64 (by omega) (by omega)]
 congr 2;omega
end
section
open Go AM
theorem AGN (a b:List UInt8):EU P 182 2 [(0,bL .own a),(1,bL .own b)]=some (.lst 68 .own (parts [(.sh,a),(.sh,b)])):=by
 simp[EU,Lm,Bj,tyB,cp,ACj,bL,List.replicate,AQ,V.clean,Ci,AU,V.norm,V.weak,parts,part,Gw,BK]
theorem AGO (f g:Fl) (a b:List UInt8):flat [(f,a),(g,b)]=a++b:=by simp[flat]
theorem ABe {s:List UInt8} (hs:s.length<2147000000):Cl 118 [.str s] []=some (Aw (Vy (0::s)),[]):=by
 rw[AAw,VW,VX,ABV]
 refine(AB (ZE 0 (by omega)) _).trans<|(ACs (by omega) _).trans<|(AB (AGN _ _) _).trans ?_
 obtain⟨f',L',e1,e2,e3⟩:=Jd ([]++[Aw (List.replicate 32 0)]) .own [(.sh,[UInt8.ofNat 0]),(.sh,s)]
 have er:AA ([]++[Aw (List.replicate 32 0)]) [.lst 68 .own (parts [(.sh,[UInt8.ofNat 0]),(.sh,s)])]=[.lst 68 f' (parts L')]:=by simp only[AA,e1]
 rw[er]
 rw[AGO]at e2
 refine(AB (V4 L' (by rw[e3];simp) f' (by rw[e2];simp;omega) (by rw[e2];simp)) _).trans ?_
 refine(AB (EY (P:=P) (h:=[]++[Aw (List.replicate 32 0)]) (id:=0) rfl (Vz _) (V3 _ _)) _).trans ?_
 refine(AB (DJ (h:=[Aw (Vy (flat L'))]) (id:=0) (v:=Aw (Vy (flat L'))) (FH rfl)) _).trans ?_
 rw[P5,e2];rfl
end
section
open Go AM
theorem AEK (a b c:List UInt8) (id:Nat) (h:List V):EU P 182 3 [(0,bL .own a),(1,bL .own b),(2,.win id [] 0 32 5)]=some (.lst 68 .lent [bL .sh a,bL .sh b,.win id [] 0 32 5]):=by
 simp[EU,Lm,Bj,tyB,cp,ACj,bL,List.replicate,AQ,V.clean,Ci,AU,V.norm,V.weak,Gw,BK]
theorem AIY {id:Nat}:Js P 55 (.ref id [] 55) none none none=some (.win id [] 0 32 5):=by
 simp[Js,ADu,BD]
theorem QD {h:List V} {id:Nat} {c:List UInt8} (hh:h[id]?=some (Aw c)) (hc:c.length=32):V.reify h (.win id [] 0 32 5)=bL .lent c:=by
 have:Ae h (.win id [] 0 32 5)=some (bytesOf c):=by
  simp[Ae,rd,hh,V.at,V.items,Aw]
  rw[List.take_of_length_le (by rw[Ag];omega)]
 simp only[V.reify,this,Bo,EH,if_true,bL]
def ZT (n:Nat) (t:List UInt8):List UInt8:=Vy ([3]++Cj n++t)
theorem ABf {n:Nat} {t:List UInt8} (hn:n<1000000000) (ht:t.length=32):Cl 94 [iv n,Aw t] []=some (Aw (ZT n t),[]):=by
 have c1:(BK P 55 (Aw t)&&V.under (List.length ([]:List V)) (Aw t))=true:=by rw[Vz,V3];rfl
 have nb:=BU 10 n
 rw[ADr,Yn,if_pos c1,ABV,Yo]
 refine(AB (Oe _) _).trans ?_
 rw[Yp]
 refine(AGM (by omega) (by omega) _).trans ?_
 have e1:AU [D6 (([]++[Aw t])++[Aw (List.replicate 32 0)]:List V).length,V.int .u64 ((n:Int).toNat:Int)]=[D6 2,V.int .u64 (n:Int)]:=rfl
 rw[e1]
 refine(AB (JF (id:=2) (h:=(([]++[Aw t])++[Aw (List.replicate 32 0)])++[BJ .nil []]) rfl (Or.inr rfl) (by omega) (by simp)) _).trans ?_
 rw[Yq]
 have eh:((([]++[Aw t])++[Aw (List.replicate 32 0)])++[BJ .nil []]:List V).set 2 (BJ .own ([]++Cj n))=[Aw t,Aw (List.replicate 32 0),BJ .own (Cj n)]:=rfl
 rw[eh]
 refine(AB (ZE 3 (by omega)) _).trans ?_
 refine(AB (L9 (id:=2) (h:=[Aw t,Aw (List.replicate 32 0),BJ .own (Cj n)]) rfl) _).trans ?_
 refine(ACs (by rw[Cj];omega) _).trans<|(AB AIY _).trans<|(AB (AEK [UInt8.ofNat 3] (Cj n) [] 0 []) _).trans ?_
 have er:AA [Aw t,Aw (List.replicate 32 0),BJ .own (Cj n)] [.lst 68 .lent [bL .sh [UInt8.ofNat 3],bL .sh (Cj n),.win 0 [] 0 32 5]]=[.lst 68 .lent (parts [(.sh,[UInt8.ofNat 3]),(.sh,Cj n),(.lent,t)])]:=by
  have w:=QD (h:=[Aw t,Aw (List.replicate 32 0),BJ .own (Cj n)]) (id:=0) (c:=t) rfl ht
  show[V.lst 68 .lent [V.reify _ (bL .sh [UInt8.ofNat 3]),V.reify _ (bL .sh (Cj n)),V.reify [Aw t,Aw (List.replicate 32 0),BJ .own (Cj n)] (.win 0 [] 0 32 5)]]=_
  rw[w];rfl
 rw[er]
 have ef:flat [(.sh,[UInt8.ofNat 3]),(.sh,Cj n),(.lent,t)]=[3]++Cj n++t:=by simp[flat]
 refine(AB (V4 _ (by simp) .lent (by rw[ef];simp only[List.length_append,Cj];simp;omega) (by rw[ef];simp)) _).trans ?_
 rw[ef]
 refine(AB (EY (P:=P) (h:=[Aw t,Aw (List.replicate 32 0),BJ .own (Cj n)]) (id:=1) rfl (Vz _) (V3 _ _)) _).trans ?_
 refine(AB (DJ (h:=[Aw t,Aw (Vy ([3]++Cj n++t)),BJ .own (Cj n)]) (id:=1) (v:=Aw (Vy ([3]++Cj n++t))) (FH rfl)) _).trans ?_
 exact P5 _ _ _
end
section
open Go AM
@[go_sem] theorem ML (l:List UInt8):(Aw l).pl=true:=Og l
@[go_sem] theorem QE (l:List UInt8):BA 54 (Aw l)=true:=MH ..
theorem MN:V.agg 54 (List.replicate 32 (V.int .u8 0))=Aw (List.replicate 32 0):=rfl
@[go_sem] theorem ZU (l:List (List UInt8)):HY (l.map V.str)=true:=Cb (fun _=>rfl) l
@[go_sem] theorem AGP (l:List (List UInt8)):(l.map V.str).all VH=true:=all_map (fun _=>rfl) l
@[go_sem] theorem AIZ (l:List UInt8):HY (bytesOf l)=true:=Og l
def MO (n:Nat):Nat→Nat→Nat
 |0,k=>k
 |f+1,k=>if 2*k<n then MO n f (2*k)else k
def MP (n:Nat):Nat:=MO n 62 1
theorem SL (n:Nat):∀(f k:Nat),0<k→k<n→0<MO n f k∧MO n f k<n
 |0,k,h,h2=>⟨h,h2⟩
 |f+1,k,h,h2=>by
  rw[MO];split
  ·exact SL n f (2*k) (by omega) (by omega)
  ·exact⟨h,h2⟩
theorem AIa {n k f:Nat} (h:n<k*2^(f+1)):n<2*k*2^f:=by
 rw[Nat.pow_succ]at h
 have e:k*(2^f*2)=2*k*2^f:=by rw[Nat.mul_comm 2 k,Nat.mul_assoc,Nat.mul_comm (2^f)]
 omega
theorem ABg (n:Nat) (hn:n<2^61):∀(f k:Nat),0<k→k≤n→n<k*2^f→J5 (iv n) (iv k)=some (iv (MO n f k),[]):=by
 intro f
 induction f with
 |zero=>intro k h h2 h3;omega
 |succ f ih=>
  intro k h h2 h3
  rw[UQ,MO]
  have h2':(2:Int)*(k:Int)=((2*k:Nat):Int):=by omega
  by_cases hk:2*k<n
  ·rw[if_pos hk]
   refine(AB (AF6 (by omega) (by omega)) _).trans<|(Rw (by omega) _).trans ?_
   rw[Dz]
   refine(AB (AF7 (by omega) (by omega)) _).trans ?_
   rw[show(k:Int)*2=((2*k:Nat):Int)by omega]
   exact ih (2*k) (by omega) (by omega) (AIa h3)
  ·rw[if_neg hk]
   refine(AB (AF6 (by omega) (by omega)) _).trans<|(Rx (by omega) _).trans ?_
   rfl
theorem ABh {n:Nat} (h2:2≤n) (hn:n<2^61):Cl 119 [iv n] []=some (iv (MP n),[]):=by
 rw[AAx]
 refine(Rx (by omega) _).trans ?_
 rw[DU]
 exact ABg n hn 62 1 (by omega) (by omega) (by omega)
def ACx (a b:List UInt8):List UInt8:=Vy ([1]++a++b)
theorem ABi {a b:List UInt8} (ha:a.length=32) (hb:b.length=32):Cl 120 [Aw a,Aw b] []=some (Aw (ACx a b),[]):=by
 have er:V.reify [Aw a,Aw b,Aw (List.replicate 32 0)] (.lst 68 .lent [bL .sh [1],.win 0 [] 0 32 5,.win 1 [] 0 32 5])= .lst 68 .lent (parts [(.sh,[1]),(.lent,a),(.lent,b)]):=by
  have w:=QD (h:=[Aw a,Aw b,Aw (List.replicate 32 0)]) (id:=0) (c:=a) rfl ha
  have w':=QD (h:=[Aw a,Aw b,Aw (List.replicate 32 0)]) (id:=1) (c:=b) rfl hb
  show V.lst 68 .lent [V.reify _ (bL .sh [1]),V.reify [Aw a,Aw b,Aw (List.replicate 32 0)] (.win 0 [] 0 32 5),V.reify [Aw a,Aw b,Aw (List.replicate 32 0)] (.win 1 [] 0 32 5)]=_
  rw[w,w'];rfl
 have ef:flat [(.sh,[1]),(.lent,a),(.lent,b)]=[1]++a++b:=by simp[flat]
 rw[AAy,MN]
 simp(disch:=first|assumption|omega|(with_reducible rfl)|(simp only[go_sem];done)|(simp only[go_sem];omega)|fail) only[↓reduceIte,↓AL,Nat.reduceAdd,go_sem]
 refine(AB (show Ql 68 true (some [.lst 5 .sh [.int .u8 1],(V.win 0 [] 0 32 5).weak,(V.win 1 [] 0 32 5).weak])=some (.lst 68 .lent [bL .sh [1],.win 0 [] 0 32 5,.win 1 [] 0 32 5])from rfl) _).trans ?_
 rw[er]
 refine(AB (V4 _ (by simp) .lent (by rw[ef];simp;omega) (by rw[ef];simp)) _).trans ?_
 rw[ef]
 simp(disch:=first|assumption|omega|(with_reducible rfl)|(simp only[go_sem];done)|(simp only[go_sem];omega)|fail) only[↓reduceIte,↓AL,Nat.reduceAdd,go_sem]
 rfl
def SN:Nat→List (List UInt8)→List UInt8
 |0,_=>Vy [2]
 |f+1,l=>if l.length=0 then Vy [2]else if l.length=1 then Vy (0::l.getD 0 [])else ACx (SN f (l.take (MP l.length))) (SN f (l.drop (MP l.length)))
theorem MQ:∀(f:Nat) (l:List (List UInt8)),(SN f l).length=32
 |0,_=>KI _
 |f+1,l=>by rw[SN];split;·exact KI _
            split<;>exact KI _
def Short (l:List (List UInt8)):Prop:=∀s∈l,s.length<2147000000
theorem Short.take {l:List (List UInt8)} (h:Short l) (n:Nat):Short (l.take n):=fun s hs=>h s (List.mem_of_mem_take hs)
theorem Short.drop {l:List (List UInt8)} (h:Short l) (n:Nat):Short (l.drop n):=fun s hs=>h s (List.mem_of_mem_drop hs)
theorem of0 {x:Nat} (hx:x<256) {g:Fl}:Cl 117 [.lst 68 g [.lst 5 .sh [.int .u8 (x:Int)]]] []=some (Aw (Vy [UInt8.ofNat x]),[]):=by
 have e:[V.lst 5 .sh [.int .u8 (x:Int)]]=parts [(.sh,[UInt8.ofNat x])]:=by
  simp only[parts,part,List.map_cons,List.map_nil,bL,bytesOf]
  rw[UInt8.toNat_ofNat',Nat.mod_eq_of_lt (by omega)]
 rw[e,V4 _ (by simp) g (by simp[flat]) (by simp[flat])]
 simp[flat]
theorem ZV {n:Nat} (h:2≤n):0<MP n∧MP n<n:=SL n 62 1 (by omega) (by omega)
theorem AEL:∀(f:Nat) (l:List (List UInt8)) (g:Fl),l.length≤f→f<2000000000→Short l→Cl 95 [.lst 9 g (l.map V.str)] []=some (Aw (SN f l),[]):=by
 intro f
 induction f with
 |zero=>
  intro l g hl _ _
  have:l=[]:=List.eq_nil_of_length_eq_zero (by omega)
  subst this
  rw[Yr,MN,SN]
  simp(disch:=first|assumption|omega|(with_reducible rfl)|(simp only[go_sem];done)|(simp only[go_sem];omega)|fail) only[↓reduceIte,↓AL,Nat.reduceAdd,go_sem,List.map_nil]
  refine(AB (of0 (x:=2) (by omega)) _).trans ?_
  simp(disch:=first|assumption|omega|(with_reducible rfl)|(simp only[go_sem];done)|(simp only[go_sem];omega)|fail) only[↓reduceIte,↓AL,Nat.reduceAdd,go_sem]
  rfl
 |succ f ih=>
  intro l g hl hf hs
  rw[Yr,MN,SN]
  by_cases h0:l.length=0
  ·simp(disch:=first|assumption|omega|(with_reducible rfl)|(simp only[go_sem];done)|(simp only[go_sem];omega)|fail) only[↓reduceIte,↓AL,Nat.reduceAdd,go_sem,h0]
   refine(AB (of0 (x:=2) (by omega)) _).trans ?_
   simp(disch:=first|assumption|omega|(with_reducible rfl)|(simp only[go_sem];done)|(simp only[go_sem];omega)|fail) only[↓reduceIte,↓AL,Nat.reduceAdd,go_sem]
   rfl
  by_cases h1:l.length=1
  ·have hg:l[0]?=some (l.getD 0 []):=by rw[List.getD_eq_getElem?_getD,List.getElem?_eq_getElem (by omega)];rfl
   have hm:(l.getD 0 []).length<2147000000:=hs _ (List.mem_of_getElem? hg)
   simp(disch:=first|assumption|omega|(with_reducible rfl)|(simp only[go_sem];done)|(simp only[go_sem];omega)|fail) only[↓reduceIte,↓AL,Nat.reduceAdd,go_sem,h0,h1,List.getElem?_map,hg,ABe hm]
   rfl
  have hh:=ZV (n:=l.length) (by omega)
  have hx:∀g,Cl 95 [.lst 9 g ((l.take (MP l.length)).map V.str)] []=_:=fun g=>ih _ g (by simp;omega) (by omega) (hs.take _)
  have hy:∀g,Cl 95 [.lst 9 g ((l.drop (MP l.length)).map V.str)] []=_:=fun g=>ih _ g (by simp;omega) (by omega) (hs.drop _)
  simp(disch:=first|assumption|omega|(with_reducible rfl)|(simp only[go_sem];done)|(simp only[go_sem];omega)|fail) only[↓reduceIte,↓AL,Nat.reduceAdd,go_sem,h0,h1,ABh (n:=l.length) (by omega) (by omega),←List.map_take,←List.map_drop,hx,hy,ABi (MQ _ _) (MQ _ _)]
def ACy (l:List (List UInt8)):List UInt8:=ZT l.length (SN l.length l)
theorem XM (n:Nat) (t:List UInt8):(ZT n t).length=32:=KI _
theorem ABj {g:Fl} {l:List (List UInt8)} (hl:l.length<1000000000) (hs:Short l):Cl 66 [.lst 9 g (l.map V.str)] []=some (Aw (ACy l),[]):=by
 have h:=fun g=>AEL l.length l g (Nat.le_refl _) (by omega) hs
 rw[ADi,MN]
 simp(disch:=first|assumption|omega|(with_reducible rfl)|(simp only[go_sem];done)|(simp only[go_sem];omega)|fail) only[↓reduceIte,↓AL,Nat.reduceAdd,go_sem,h,ABf (n:=l.length) hl (MQ _ _)]
 rfl
end
section
open Go AM
def z32:List UInt8:=List.replicate 32 0
theorem ABk:V.agg 54 (List.replicate 32 (V.int .u8 0))=Aw z32:=rfl
theorem QF:∀a b:List UInt8,a.length=b.length→Jr (bytesOf a) (bytesOf b)=some (decide (a=b))
 |[],[],_=>rfl
 |x::a,y::b,h=>by
  have e:∀(z:UInt8) (l:List UInt8),bytesOf (z::l)= .int .u8 (z.toNat:Int)::bytesOf l:=fun _ _=>rfl
  rw[e,e]
  simp only[Jr,IY,if_true,Option.bind_some]
  by_cases hxy:x=y
  ·subst hxy
   simp[QF a b (by simpa using h)]
  ·have:¬(x.toNat:Int)=(y.toNat:Int):=fun h=>hxy (UInt8.toNat_inj.1 (by omega))
   simp[this,hxy]
 |[],_::_,h=>by simp at h
 |_::_,[],h=>by simp at h
@[go_sem] theorem eqA {a b:List UInt8} (ha:a.length=32) (hb:b.length=32):YL (BA 54) .eql (Aw a) (Aw b)=some (.bool (decide (a=b))):=by
  have h:IY (Aw a) (Aw b)=some (decide (a=b)):=by simp only[Aw,IY,if_true,QF a b (by omega)]
  simp only[YL,QE,Bool.and_self,if_true,h,Option.map_some]
@[go_sem] theorem neA {a b:List UInt8} (ha:a.length=32) (hb:b.length=32):YL (BA 54) .neq (Aw a) (Aw b)=some (.bool (!decide (a=b))):=by
  have h:IY (Aw a) (Aw b)=some (decide (a=b)):=by simp only[Aw,IY,if_true,QF a b (by omega)]
  simp only[YL,QE,Bool.and_self,if_true,h,Option.map_some]
@[go_sem] theorem AGQ (l:List (List UInt8)):HY (l.map Aw)=true:=Cb ML l
@[go_sem] theorem AGR (l:List (List UInt8)):(l.map Aw).all (BA 54)=true:=all_map QE l
theorem ZW (a:V):Cl 45 [] [a]=some (D6 1,[a,BJ .nil []]):=Oe [a]
theorem MR {a:V} {f:Fl} {l:List UInt8} {x:Int} (hf:OK f) (h0:0≤x) (h1:x<18446744073709551616) (hl:l.length≤2000000000):Cl 46 [D6 1,.int .u64 x] [a,BJ f l]=some (.tup [],[a,BJ .own (l++Cj x.toNat)]):=by
 have:=JF (h:=[a,BJ f l]) (id:=1) (n:=x.toNat) rfl hf (by omega) (by omega)
 rw[show((x.toNat:Nat):Int)=x by omega]at this
 exact this
theorem XO {a:V} {f:Fl} {l:List UInt8}:Cl 50 [D6 1] [a,BJ f l]=some (.str l,[a,BJ f l]):=L9 (h:=[a,BJ f l]) (id:=1) rfl
@[go_sem] theorem AE7 (n:Nat):V.norm (D6 n)=D6 n:=(rfl)
@[go_sem] theorem AEM {n m:Nat} (h:n<m):V.under m (D6 n)=true:=Oh h ..
theorem QG:OK .own:=Or.inl rfl
theorem AEN:OK .nil:=Or.inr rfl
@[go_sem] theorem AGS (n:Nat):V.norm (XE n)=XE n:=(rfl)
@[go_sem] theorem AE8 {n m:Nat} (h:n<m):V.under m (XE n)=true:=Oh h ..
@[go_sem] theorem AIb (s:List UInt8) (e:Nat):(Lp s e).pl=true:=(rfl)
section
variable {a b c:V} {s:List UInt8} {e:Nat}
end
@[go_sem] theorem AJk {s:List UInt8} (h:1≤s.length) (k:IntKind):slT (.str s) (some (.int k 1)) none=some (.str (s.drop 1)):=AEE h k
end
section
open Go AM
def QH:List (List UInt8):=[[109,97,120],[108,97,98,101,108],[115,115,115,112],[98,102,115],[100,101,103,114,101,101],[114,97,110,107],[119,97,108,107,115]]
def IB (t:List UInt8):Bool:=QH.any fun s=>decide (t=s)
theorem ABl (t:List UInt8) {ls:List (List UInt8)} (hl:ls.length<1000000) (f:Fl):∀(m i:Nat),i+m=ls.length→
 Jw (.lst 9 f (ls.map .str)) (.str t) (.int .i64 (ls.length:Int)) (.int .i64 (i:Int))=some (.int .i64 (JG (fun s=>decide (t=s)) i (ls.drop i)),[]):=by
 intro m
 induction m with
 |zero=>
  intro i hi
  rw[List.drop_eq_nil_of_le (by omega),Kv]
  simp(disch:=first|assumption|omega|(with_reducible rfl)|(simp only[go_sem];done)|(simp only[go_sem];omega)|fail) only[↓reduceIte,↓AL,Nat.reduceAdd,go_sem,JG]
 |succ m ih=>
  intro i hi
  have h:i<ls.length:=by omega
  have:=ih (i+1) (by omega)
  have ha:(ls.map V.str)[i]?=some (.str ls[i]):=by simp[h]
  rw[List.drop_eq_getElem_cons h,JG,Kv]
  by_cases ho:t=ls[i]
  ·rw[if_pos (decide_eq_true ho)]
   simp(disch:=first|assumption|omega|(with_reducible rfl)|(simp only[go_sem];done)|(simp only[go_sem];omega)|fail) only[↓reduceIte,↓AL,Nat.reduceAdd,go_sem,ha]
  ·rw[if_neg (by simp[ho]),←this]
   simp(disch:=first|assumption|omega|(with_reducible rfl)|(simp only[go_sem];done)|(simp only[go_sem];omega)|fail) only[↓reduceIte,↓AL,Nat.reduceAdd,go_sem,ha]
theorem SQ (t:List UInt8):Cl 62 [.str t] []=some (.bool (IB t),[]):=by
 have h:=ABl t (ls:=QH) (by decide) .sh QH.length 0 (by omega)
 simp only[c0,List.drop_zero]at h
 have h2:Cl 92 [.lst 9 .sh (QH.map .str),.str t] []=some (.bool (IB t),[]):=by
  have ix:Cl 116 [.lst 9 .sh (QH.map .str),.str t] []=some (.int .i64 (JG (fun s=>decide (t=s)) 0 QH),[]):=by
   rw[←h,AAu]
   simp(disch:=first|assumption|omega|(with_reducible rfl)|(simp only[go_sem];done)|(simp only[go_sem];omega)|fail) only[↓reduceIte,↓AL,Nat.reduceAdd,go_sem]
  rw[IB,←WE _ QH 0,ADp]
  simp(disch:=first|assumption|omega|(with_reducible rfl)|(simp only[go_sem];done)|(simp only[go_sem];omega)|fail) only[↓reduceIte,↓AL,Nat.reduceAdd,go_sem,ix]
 simp only[QH,List.map_cons,List.map_nil]at h2
 rw[ADe]
 simp(disch:=first|assumption|omega|(with_reducible rfl)|(simp only[go_sem];done)|(simp only[go_sem];omega)|fail) only[↓reduceIte,↓AL,Nat.reduceAdd,go_sem,h2]
theorem XP (t:List UInt8):Cl 69 [.str t] []=some (.bool (IB t),[]):=by
 rw[ADj]
 repeat' first|rfl|refine SC (fun _=> ?_) (fun _=> ?_)|refine SE (fun _=> ?_) (fun _=> ?_)|simp(disch:=first|assumption|omega|(with_reducible rfl)|(simp only[go_sem];done)|(simp only[go_sem];omega)|fail) only[↓reduceIte,↓AL,Nat.reduceAdd,go_sem]
 all_goals simp_all [IB,QH]
structure Job where
 tag:List UInt8
 src:Int
 steps:Int
abbrev vJ (j:Job):V:= .agg 25 [.str j.tag,.int .i64 j.src,.int .i64 j.steps]
def Hf (g:Grf) (j:Job):Bool:=decide (IA g=0∧IB j.tag=true∧0≤j.src∧j.src<g.n∧1≤j.steps∧j.steps≤64)
theorem Oo {g:Grf} (hl:g.es.length<1000000) (j:Job):Cl 32 [vG .sh g,vJ j] []=some (.int .i64 (if Hf g j=true then 0 else 70),[]):=by
 have hg:=XL hl
 rw[ADU]
 repeat' first|rfl|refine SC (fun _=> ?_) (fun _=> ?_)|refine SE (fun _=> ?_) (fun _=> ?_)|simp(disch:=first|assumption|omega|(with_reducible rfl)|(simp only[go_sem];done)|(simp only[go_sem];omega)|fail) only[↓reduceIte,↓AL,Nat.reduceAdd,go_sem,hg,SQ]
 all_goals (rw[Hf];simp_all)
 all_goals omega
def firstX (j:Job) (v:Int):Vtx:=
 if IB j.tag=true then⟨v,if j.tag=[109,97,120]then(37*v+11).tmod 64 else if j.tag=[108,97,98,101,108]then v else if j.tag=[115,115,115,112]∨j.tag=[98,102,115]then(if v=j.src then 0 else -1)else if j.tag=[114,97,110,107]then 65536 else if j.tag=[119,97,108,107,115]then 1 else 0,true,false,0⟩else⟨0,0,false,false,0⟩
theorem AGT (a:Int):AO .rem (.int .i64 a) (.int .i64 64)=some (.int .i64 (a.tmod 64)):=Rj _ _ _ (by omega)
theorem SS (j:Job) {v:Int} (h1:0≤v) (h2:v<1000):Cl 34 [vJ j,.int .i64 v] []=some (Dc (firstX j v),[]):=by
 rw[ADW]
 repeat' first|rfl|refine SC (fun _=> ?_) (fun _=> ?_)|refine SE (fun _=> ?_) (fun _=> ?_)|simp(disch:=first|assumption|omega|(with_reducible rfl)|(simp only[go_sem];done)|(simp only[go_sem];omega)|fail) only[↓reduceIte,↓AL,Nat.reduceAdd,go_sem,SQ,AGT]
 all_goals simp_all [firstX,Dc]
end
section
open Go AM
theorem ZX {f:FuncId} {e:TypeId} (ht:CZ.two f=true) (h1:Cl f [.lst e .nil []] []=some (.lst e .sh [],[])) (h2:Cl f [.lst e .non []] []=some (.lst e .sh [],[])):CT f [.lst e .sh []]=some (.lst e .sh [],[]):=by
 show EX CZ W f _=_
 unfold EX
 rw[ht]
 show(Cl f [.lst e .nil []] []).bind _=_
 rw[h1]
 show(Cl f [.lst e .non []] []).bind _=_
 rw[h2]
 show(YS (.lst e .sh []) (.lst e .sh [])).bind _=_
 simp[YS]
theorem WI {f:FuncId} {e:TypeId} {x:V} {xs:List V} (ht:CZ.two f=true):CT f [.lst e .sh (x::xs)]=Cl f [.lst e .sh (x::xs)] []:=by
 show EX CZ W f _=_
 unfold EX
 rw[ht];rfl
theorem XQ {l:List E0} (hl:l.length≤1000000):CT 59 [.lst 112 .sh (l.map Gx)]=some (.lst 112 .sh (l.map Gx),[]):=by
 cases l with
 |nil=>
  refine ZX (by kernel_rfl) ?_ ?_
  ·rw[UN];rfl
  ·rw[UN];rfl
 |cons x l=>
  rw[List.map_cons,WI (by kernel_rfl)]
  have ap:∀h:List V,PO 112 (BA 111) false h (.lst 112 .own []) (.lst 112 .sh (Gx x::l.map Gx))=some (.lst 112 .own ((x::l).map Gx)):=fun h=>by
   rw[show Gx x::l.map Gx=(x::l).map Gx from rfl,KJ (V.PFL _ (QA (x::l))).clean (all_map WB _) (by simp at hl⊢;omega),List.nil_append];rfl
  have en:Gz .eql (.lst 112 .sh (Gx x::l.map Gx)) (.lst 112 .nil [])=some (.bool false):=rfl
  rw[UN]
  simp(disch:=first|assumption|omega|(with_reducible rfl)|(simp only[go_sem];done)|(simp only[go_sem];omega)|fail) only[↓reduceIte,↓AL,Nat.reduceAdd,go_sem,ap,en]
  rfl
theorem XR {l:List Vtx} (hl:l.length≤1000000):CT 60 [.lst 81 .sh (l.map Dc)]=some (.lst 81 .sh (l.map Dc),[]):=by
 cases l with
 |nil=>
  refine ZX (by kernel_rfl) ?_ ?_
  ·rw[UO];rfl
  ·rw[UO];rfl
 |cons x l=>
  rw[List.map_cons,WI (by kernel_rfl)]
  have ap:∀h:List V,PO 81 (BA tVx) false h (.lst 81 .own []) (.lst 81 .sh (Dc x::l.map Dc))=some (.lst 81 .own ((x::l).map Dc)):=fun h=>by
   rw[show Dc x::l.map Dc=(x::l).map Dc from rfl,KJ (V.PFL _ (KL (x::l))).clean (all_map ABd _) (by simp at hl⊢;omega),List.nil_append];rfl
  have en:Gz .eql (.lst 81 .sh (Dc x::l.map Dc)) (.lst 81 .nil [])=some (.bool false):=rfl
  rw[UO]
  simp(disch:=first|assumption|omega|(with_reducible rfl)|(simp only[go_sem];done)|(simp only[go_sem];omega)|fail) only[↓reduceIte,↓AL,Nat.reduceAdd,go_sem,ap,en]
  rfl
end
section
open Go AM
def mA (v:Nat):Nat:=v*2654435761%4294967296
def mB (a:Nat):Nat:=a ^^^ (a/32768)
def mC (b:Nat):Nat:=b*2246822519%4294967296
def mD (c:Nat):Nat:=c ^^^ (c/8192)
def mixN (v:Nat):Nat:=mD (mC (mB (mA v)))
theorem AGU (v:Nat):mA v<4294967296:=Nat.mod_lt _ (by omega)
theorem AGV (v:Nat):mC v<4294967296:=Nat.mod_lt _ (by omega)
theorem SV {a:Nat} (h:a<4294967296) (k:Nat):a/k<4294967296:=Nat.lt_of_le_of_lt (Nat.div_le_self a k) h
theorem ACz (a c:Nat):AO .mul (.int .u32 (a:Int)) (.int .u32 (c:Int))=some (.int .u32 ((a*c%4294967296:Nat):Int)):=by
 rw[Ri,←Int.natCast_mul,FD]
theorem AC0 {a:Nat} (h:a<4294967296) (k:Nat) (hk:k≤32):AO .shr (.int .u32 (a:Int)) (.int .u64 (k:Int))=some (.int .u32 ((a/2^k:Nat):Int)):=by
 have e:(min (k:Int).toNat IntKind.u32.bits)=k:=by simp only[IntKind.bits,Int.toNat_natCast];omega
 have h2:=Nat.div_le_self a (2^k)
 have e2:((2:Int)^k)=((2^k:Nat):Int):=by simp
 rw[Rk _ _ _ _ (by omega),e,e2,Int.fdiv_eq_ediv_of_nonneg _ (Int.natCast_nonneg _),←Int.natCast_ediv]
@[go_sem] theorem m1 (a:Nat):AO .mul (.int .u32 (a:Int)) (.int .u32 2654435761)=some (.int .u32 (mA a:Int)):=ACz a 2654435761
@[go_sem] theorem m2 (a:Nat):AO .mul (.int .u32 (a:Int)) (.int .u32 2246822519)=some (.int .u32 (mC a:Int)):=ACz a 2246822519
theorem s15 {a:Nat} (h:a<4294967296):AO .shr (.int .u32 (a:Int)) (.int .u64 15)=some (.int .u32 ((a/32768:Nat):Int)):=AC0 h 15 (by omega)
theorem s13 {a:Nat} (h:a<4294967296):AO .shr (.int .u32 (a:Int)) (.int .u64 13)=some (.int .u32 ((a/8192:Nat):Int)):=AC0 h 13 (by omega)
theorem AEO (v:Nat):Cl 93 [.int .u32 (v:Int)] []=some (.int .u32 (mixN v:Int),[]):=by
 have a1:=AGU v
 have b1:=AGV (mB (mA v))
 have x1:AO .xor (.int .u32 (mA v:Int)) (.int .u32 ((mA v/32768:Nat):Int))=some (.int .u32 (mB (mA v):Int)):=u32_xor a1 (SV a1 _)
 have x2:AO .xor (.int .u32 (mC (mB (mA v)):Int)) (.int .u32 ((mC (mB (mA v))/8192:Nat):Int))=some (.int .u32 (mixN v:Int)):=u32_xor b1 (SV b1 _)
 rw[ADq]
 simp(disch:=first|assumption|omega|(with_reducible rfl)|(simp only[go_sem];done)|(simp only[go_sem];omega)|fail) only[↓reduceIte,↓AL,Nat.reduceAdd,go_sem,s15 a1,x1,s13 b1,x2]
theorem AGW {a c:Nat} (h:a*c<18446744073709551616):AO .mul (.int .u64 (a:Int)) (.int .u64 (c:Int))=some (.int .u64 ((a*c:Nat):Int)):=by
 rw[Ri,←Int.natCast_mul,wrap_u64 (by omega) (by omega)]
theorem k1 {v:Nat} (h:v<4294967296) (K:V→Rv):((AO .mul (.int .u64 (v:Int)) (.int .u64 2654435761)).bind fun t=>(AO .rem t (.int .u64 4294967296)).bind K)=K (.int .u64 (mA v:Int)):=
 (AB (AGW (a:=v) (c:=2654435761) (by omega)) _).trans (AB (AD8 (a:=v*2654435761) (b:=4294967296) (by omega) .u64) _)
theorem k2 {v:Nat} (h:v<4294967296) (K:V→Rv):((AO .mul (.int .u64 (v:Int)) (.int .u64 2246822519)).bind fun t=>(AO .rem t (.int .u64 4294967296)).bind K)=K (.int .u64 (mC v:Int)):=
 (AB (AGW (a:=v) (c:=2246822519) (by omega)) _).trans (AB (AD8 (a:=v*2246822519) (b:=4294967296) (by omega) .u64) _)
def ownN (v n:Nat):Nat:=mixN v%n
theorem ZY {v n:Nat} (hv:v<1000) (h1:1≤n) (h2:n≤64):Cl 65 [.int .i64 (v:Int),.int .i64 (n:Int)] []=some (.int .i64 (ownN v n:Int),[]):=by
 have hm:=AEO v
 have cv1:UK .u32 (.int .i64 (v:Int))=some (.int .u32 (v:Int)):=by rw[UK,wrap_u32 (by omega) (by omega)]
 have cv2:UK .u32 (.int .i64 (n:Int))=some (.int .u32 (n:Int)):=by rw[UK,wrap_u32 (by omega) (by omega)]
 have r:=AD8 (a:=mixN v) (b:=n) (by omega) .u32
 have hl:mixN v%n<n:=Nat.mod_lt _ (by omega)
 rw[ownN,ADh]
 simp(disch:=first|assumption|omega|(with_reducible rfl)|(simp only[go_sem];done)|(simp only[go_sem];omega)|fail) only[↓reduceIte,↓AL,Nat.reduceAdd,go_sem,cv1,cv2,hm,r]
def ofL (n N w:Nat):List Nat:=(List.range n).filter fun v=>decide (ownN v N=w)
theorem MS (n N w:Nat):ofL (n+1) N w=if ownN n N=w then ofL n N w++[n]else ofL n N w:=by
 simp only[ofL,List.range_succ,List.filter_append,List.filter_cons,List.filter_nil]
 by_cases h:ownN n N=w<;>simp[h]
theorem Ue {n N w v:Nat} (h:v∈ofL n N w):v<n:=by
 simp only[ofL,List.mem_filter,List.mem_range]at h;exact h.1
theorem Gf (n N w:Nat):(ofL n N w).length≤n:=by
 have:=List.length_filter_le (fun v=>decide (ownN v N=w)) (List.range n)
 simpa [ofL]using this
attribute [irreducible] mixN ownN ofL
abbrev Uf (f:Fl) (l:List Nat):V:= .lst 3 f (l.map fun(v:Nat)=>V.int .i64 (v:Int))
@[go_sem] theorem AGX (l:List Nat):HY (l.map fun(v:Nat)=>V.int .i64 (v:Int))=true:=Cb (fun _=>rfl) l
@[go_sem] theorem AGY (l:List Nat):(l.map fun(v:Nat)=>V.int .i64 (v:Int)).all (Nh .i64)=true:=all_map (fun _=>rfl) l
theorem Za (f:Fl) (l:List Nat) (v:Nat):Uf f (l++[v])= .lst 3 f ((l.map fun(v:Nat)=>V.int .i64 (v:Int))++[.int .i64 (v:Int)]):=by simp[Uf]
theorem AEP {v N w:Nat} (hv:v<1000) (h1:1≤N) (h2:N≤64):Cl 64 [.int .i64 (v:Int),.ref 0 [] 3,.ref 1 [] 3] [.int .i64 (N:Int),.int .i64 (w:Int)]=some (.bool (decide (ownN v N=w)),[.int .i64 (N:Int),.int .i64 (w:Int)]):=by
 have ho:=ZY hv h1 h2
 have e:decide ((ownN v N:Int)=(w:Int))=decide (ownN v N=w):=decide_eq_decide.2 (by omega)
 rw[ADg]
 simp(disch:=first|assumption|omega|(with_reducible rfl)|(simp only[go_sem];done)|(simp only[go_sem];omega)|fail) only[↓reduceIte,↓AL,Nat.reduceAdd,go_sem,ho,e]
theorem AIc {v N w:Nat} (hv:v<1000) (h1:1≤N) (h2:N≤64) (k:V→List V→Rv):CP P CZ W (.clo 64 [.ref 0 [] 3,.ref 1 [] 3]) [.int .i64 (v:Int)] [.int .i64 (N:Int),.int .i64 (w:Int)] k=k (.bool (decide (ownN v N=w))) [.int .i64 (N:Int),.int .i64 (w:Int)]:=
 Oj k (by kernel_rfl) (by kernel_rfl) (AEP hv h1 h2)
theorem AEQ {n N w:Nat} (hn:n≤64) (h1:1≤N) (h2:N≤64):∀(m i:Nat) (f:Fl),i+m=n→(f= .own∨f= .nil)→
 KZ (.clo 64 [.ref 0 [] 3,.ref 1 [] 3]) (Uf f (ofL i N w)) (.int .i64 (n:Int)) (.int .i64 (i:Int)) [.int .i64 (N:Int),.int .i64 (w:Int)]=some (.tup [Uf .sh (ofL n N w),.int .i64 0],[]):=by
 intro m
 induction m with
 |zero=>
  intro i f hi hf
  obtain rfl:i=n:=by omega
  rw[OJ]
  rcases hf with rfl|rfl
  ·simp(disch:=first|assumption|omega|(with_reducible rfl)|(simp only[go_sem];done)|(simp only[go_sem];omega)|fail) only[↓reduceIte,↓AL,Nat.reduceAdd,go_sem]
  ·simp(disch:=first|assumption|omega|(with_reducible rfl)|(simp only[go_sem];done)|(simp only[go_sem];omega)|fail) only[↓reduceIte,↓AL,Nat.reduceAdd,go_sem]
 |succ m ih=>
  intro i f hi hf
  have hl:=Gf i N w
  have hv:=Za .own (ofL i N w) i
  have h:=AIc (v:=i) (N:=N) (w:=w) (by omega) h1 h2
  rw[OJ]
  by_cases ho:ownN i N=w
  ·have:=ih (i+1) .own (by omega) (Or.inl rfl)
   rw[MS,if_pos ho]at this
   rcases hf with rfl|rfl
   ·simp(disch:=first|assumption|omega|(with_reducible rfl)|(simp only[go_sem];done)|(simp only[go_sem];omega)|fail) only[↓reduceIte,↓AL,Nat.reduceAdd,go_sem,h,decide_eq_true ho]
    rw[hv]at this;exact this
   ·simp(disch:=first|assumption|omega|(with_reducible rfl)|(simp only[go_sem];done)|(simp only[go_sem];omega)|fail) only[↓reduceIte,↓AL,Nat.reduceAdd,go_sem,h,decide_eq_true ho]
    rw[hv]at this;exact this
  ·have:=ih (i+1) f (by omega) hf
   rw[MS,if_neg ho]at this
   simp(disch:=first|assumption|omega|(with_reducible rfl)|(simp only[go_sem];done)|(simp only[go_sem];omega)|fail) only[↓reduceIte,↓AL,Nat.reduceAdd,go_sem,h,decide_eq_false ho]
   exact this
theorem Zb {n N w:Nat} (h0:1≤n) (hn:n≤64) (h1:1≤N) (h2:N≤64) (hw:w<N):Cl 33 [.int .i64 (n:Int),.int .i64 (N:Int),.int .i64 (w:Int)] []=some (.tup [Uf .sh (ofL n N w),.int .i64 0],[]):=by
 have h:=AEQ (w:=w) hn h1 h2 n 0 .nil (by omega) (Or.inr rfl)
 have r:Cl 63 [.int .i64 (n:Int),.int .i64 (N:Int)] []=some (.bool true,[]):=by
  rw[ADf]
  simp(disch:=first|assumption|omega|(with_reducible rfl)|(simp only[go_sem];done)|(simp only[go_sem];omega)|fail) only[↓reduceIte,↓AL,Nat.reduceAdd,go_sem]
  rw[decide_eq_true (by omega)]
 have z:Uf .nil (ofL 0 N w)= .lst 3 .nil []:=by simp[ofL]
 rw[z]at h
 rw[←h,ADV]
 simp(disch:=first|assumption|omega|(with_reducible rfl)|(simp only[go_sem];done)|(simp only[go_sem];omega)|fail) only[↓reduceIte,↓AL,Nat.reduceAdd,go_sem,r]
 rfl
end
section
open Go AM
abbrev kE (e:E0):Int×Int:=(e.fr,e.to)
theorem Zc (es:List E0) {i:Nat} (h:i<es.length):((es.take (i+1)).map kE).Nodup↔((es.take i).map kE).Nodup∧(es.take i).any (fun x=>decide (kE x=kE es[i]))=false:=by
 rw[List.take_add_one,List.getElem?_eq_getElem h,Option.toList_some,List.map_append,List.nodup_append]
 simp only[List.map_cons,List.map_nil,List.nodup_cons,List.not_mem_nil,not_false_eq_true,List.nodup_nil,and_self,true_and,List.mem_cons,or_false]
 refine and_congr_right fun _=> ?_
 rw[List.any_eq_false]
 constructor
 ·intro h x hx;simp only[decide_eq_true_eq];exact fun e=>h (kE x) (List.mem_map_of_mem hx) _ rfl e
 ·rintro h a ha b rfl e
  obtain⟨x,hx,rfl⟩:=List.mem_map.1 ha
  exact h x hx (decide_eq_true e)
theorem AGZ {g:Grf} (hl:g.es.length<1000000) {i:Nat} (hi:i<g.es.length):∀(n k:Nat) (b:Bool),k+n=i→
 PW rG (.bool b) (.int .i64 (i:Int)) (.ref 1 [] 112) (.int .i64 (k:Int)) 1 [vG .sh g,Gx g.es[i]]=
  Kr rG (.bool (b||((g.es.take i).drop k).any (fun x=>decide (kE x=kE g.es[i])))) (.int .i64 ((i+1:Nat):Int)) [vG .sh g]:=by
 intro n
 induction n with
 |zero=>
  intro k b hk
  rw[List.drop_eq_nil_of_le (by simp;omega),List.any_nil,Bool.or_false,OM]
  simp(disch:=first|assumption|omega|(with_reducible rfl)|(simp only[go_sem];done)|(simp only[go_sem];omega)|fail) only[↓reduceIte,↓AL,Nat.reduceAdd,go_sem]
 |succ n ih=>
  intro k b hk
  have hk2:k<g.es.length:=by omega
  have hx:=WC hk2
  have hlen:k<(g.es.take i).length:=by simp;omega
  have hd:(g.es.take i).drop k=g.es[k]::(g.es.take i).drop (k+1):=by
   rw[List.drop_eq_getElem_cons hlen,List.getElem_take]
  rw[hd,List.any_cons,OM]
  cases b with
  |true=>
   have:=ih (k+1) true (by omega)
   rw[Bool.true_or]at this⊢
   rw[←this]
   simp(disch:=first|assumption|omega|(with_reducible rfl)|(simp only[go_sem];done)|(simp only[go_sem];omega)|fail) only[↓reduceIte,↓AL,Nat.reduceAdd,go_sem]
  |false=>
   rw[Bool.false_or]
   by_cases h1:g.es[k].fr=g.es[i].fr
   ·by_cases h2:g.es[k].to=g.es[i].to
    ·have:=ih (k+1) true (by omega)
     rw[Bool.true_or]at this
     rw[decide_eq_true (show kE g.es[k]=kE g.es[i]by rw[kE,h1,h2]),Bool.true_or,←this]
     generalize hek:g.es[k]=a at*
     generalize hei:g.es[i]=c at*
     simp only[Gx]at hx⊢
     simp(disch:=first|assumption|omega|(with_reducible rfl)|(simp only[go_sem];done)|(simp only[go_sem];omega)|fail) only[↓reduceIte,↓AL,Nat.reduceAdd,go_sem,hx,h1,h2,decide_true]
    ·have:=ih (k+1) false (by omega)
     rw[Bool.false_or]at this
     rw[decide_eq_false (show ¬kE g.es[k]=kE g.es[i]from fun e=>h2 (Prod.mk.inj e).2),Bool.false_or,←this]
     generalize hek:g.es[k]=a at*
     generalize hei:g.es[i]=c at*
     simp only[Gx]at hx⊢
     simp(disch:=first|assumption|omega|(with_reducible rfl)|(simp only[go_sem];done)|(simp only[go_sem];omega)|fail) only[↓reduceIte,↓AL,Nat.reduceAdd,go_sem,hx,h1,decide_eq_false h2]
   ·have:=ih (k+1) false (by omega)
    rw[Bool.false_or]at this
    rw[decide_eq_false (show ¬kE g.es[k]=kE g.es[i]from fun e=>h1 (Prod.mk.inj e).1),Bool.false_or,←this]
    generalize hek:g.es[k]=a at*
    generalize hei:g.es[i]=c at*
    simp only[Gx]at hx⊢
    simp(disch:=first|assumption|omega|(with_reducible rfl)|(simp only[go_sem];done)|(simp only[go_sem];omega)|fail) only[↓reduceIte,↓AL,Nat.reduceAdd,go_sem,hx]
def r5 (g:Grf) (i:Nat):Int:=if(g.es.drop i).any (EW g.n)=true then 50 else if(g.es.map kE).Nodup then 0 else 51
theorem AGa {g:Grf} (hl:g.es.length<1000000):∀(n i:Nat) (b:Bool),i+n=g.es.length→b= !decide ((g.es.take i).map kE).Nodup→
 Kr rG (.bool b) (.int .i64 (i:Int)) [vG .sh g]=some (.int .i64 (r5 g i),[]):=by
 intro n
 induction n with
 |zero=>
  intro i b hi hb
  rw[List.take_of_length_le (by omega)]at hb
  rw[r5,List.drop_eq_nil_of_le (by omega),List.any_nil,OO]
  by_cases hn:(g.es.map kE).Nodup
  ·rw[decide_eq_true hn]at hb
   subst hb
   rw[if_pos hn]
   simp(disch:=first|assumption|omega|(with_reducible rfl)|(simp only[go_sem];done)|(simp only[go_sem];omega)|fail) only[↓reduceIte,↓AL,Nat.reduceAdd,go_sem]
   rfl
  ·rw[decide_eq_false hn]at hb
   subst hb
   rw[if_neg hn]
   simp(disch:=first|assumption|omega|(with_reducible rfl)|(simp only[go_sem];done)|(simp only[go_sem];omega)|fail) only[↓reduceIte,↓AL,Nat.reduceAdd,go_sem]
   rfl
 |succ n ih=>
  intro i b hi hb
  have h:i<g.es.length:=by omega
  have hx:=WC h
  have l2:=AGZ hl h i 0 b (by omega)
  rw[List.drop_zero]at l2
  have hk:=Zc g.es h
  have ih':=ih (i+1) (b||(g.es.take i).any (fun x=>decide (kE x=kE g.es[i]))) (by omega) (by
   subst hb
   rw[Bool.eq_iff_iff]
   by_cases p:((g.es.take i).map kE).Nodup<;>cases q:(g.es.take i).any (fun x=>decide (kE x=kE g.es[i]))<;>simp_all)
  rw[ih']at l2
  have hbad:EW g.n g.es[i]=true→r5 g i=50:=fun ho=>by rw[r5,List.drop_eq_getElem_cons h,List.any_cons,ho];rfl
  have hok:EW g.n g.es[i]=false→r5 g i=r5 g (i+1):=fun ho=>by rw[r5,r5,List.drop_eq_getElem_cons h,List.any_cons,ho];rfl
  generalize r5 g i=r at*
  generalize r5 g (i+1)=r' at*
  generalize he:g.es[i]=e at*
  rw[OO]
  simp only[Gx,c0]at hx l2
  repeat' first|rfl|refine SC (fun _=> ?_) (fun _=> ?_)|refine SE (fun _=> ?_) (fun _=> ?_)|simp(disch:=first|assumption|omega|(with_reducible rfl)|(simp only[go_sem];done)|(simp only[go_sem];omega)|fail) only[↓reduceIte,↓AL,Nat.reduceAdd,go_sem,hx,l2]
  all_goals simp only[EW]at hbad hok
  all_goals simp_all
  all_goals omega
theorem ABm {g:Grf} (hl:g.es.length<1000000):Cl 68 [vG .sh g] []=some (.int .i64 (IA g),[]):=by
 have h:=AGa hl g.es.length 0 false (by omega) (by simp)
 simp only[c0]at h
 have e:∀(a:1≤g.n) (b:g.n≤64) (c:g.es.length≤512),IA g=r5 g 0:=by
  intro a b c
  rw[IA,r5,List.drop_zero]
  by_cases ho:g.es.any (EW g.n)=true
  ·rw[if_neg (fun h=>by rw[ho]at h;cases h.2.2.2),if_pos ho]
  ·rw[if_pos ⟨a,b,c,by simpa using ho⟩,if_neg ho]
 by_cases h1:g.n<1
 ·rw[IA,if_neg (by omega),PX]
  simp(disch:=first|assumption|omega|(with_reducible rfl)|(simp only[go_sem];done)|(simp only[go_sem];omega)|fail) only[↓reduceIte,↓AL,Nat.reduceAdd,go_sem]
 by_cases h2:64<g.n
 ·rw[IA,if_neg (by omega),PX]
  simp(disch:=first|assumption|omega|(with_reducible rfl)|(simp only[go_sem];done)|(simp only[go_sem];omega)|fail) only[↓reduceIte,↓AL,Nat.reduceAdd,go_sem]
 by_cases h3:512<g.es.length
 ·rw[IA,if_neg (by omega),PX]
  simp(disch:=first|assumption|omega|(with_reducible rfl)|(simp only[go_sem];done)|(simp only[go_sem];omega)|fail) only[↓reduceIte,↓AL,Nat.reduceAdd,go_sem]
 rw[e (by omega) (by omega) (by omega),PX]
 simp(disch:=first|assumption|omega|(with_reducible rfl)|(simp only[go_sem];done)|(simp only[go_sem];omega)|fail) only[↓reduceIte,↓AL,Nat.reduceAdd,go_sem,h]
end
section
open Go AM
theorem Ug {g:Grf} (hl:g.es.length<1000000) (j:Job):Cl 37 [vG .sh g,vJ j] []=some (.bool (Hf g j),[]):=by
 have hg:=ABm hl
 rw[ADZ]
 repeat' first|rfl|refine SC (fun _=> ?_) (fun _=> ?_)|refine SE (fun _=> ?_) (fun _=> ?_)|simp(disch:=first|assumption|omega|(with_reducible rfl)|(simp only[go_sem];done)|(simp only[go_sem];omega)|fail) only[↓reduceIte,↓AL,Nat.reduceAdd,go_sem,hg,XP]
 all_goals (rw[Hf];simp_all)
 all_goals omega
def Hg (g:Grf) (j:Job) (w:Int):Bool:=Hf g j&&decide (1≤w∧w≤64)
theorem XT {g:Grf} (hl:g.es.length<1000000) (j:Job) (w:Int):Cl 12 [vG .sh g,vJ j,.int .i64 w] []=some (.bool (Hg g j w),[]):=by
 have hg:=Ug hl j
 rw[Hg,ADP]
 generalize Hf g j=b at*
 repeat' first|rfl|refine SC (fun _=> ?_) (fun _=> ?_)|refine SE (fun _=> ?_) (fun _=> ?_)|simp(disch:=first|assumption|omega|(with_reducible rfl)|(simp only[go_sem];done)|(simp only[go_sem];omega)|fail) only[↓reduceIte,↓AL,Nat.reduceAdd,go_sem,hg]
 all_goals simp_all
 all_goals omega
end
section
open Go AM
structure Msg where
 fr:Int
 to:Int
 val:Int
 deriving DecidableEq
def Uh (m:Msg):V:= .agg 107 [.int .i64 m.fr,.int .i64 m.to,.int .i64 m.val]
end
section
open Go AM
@[go_sem] theorem AHU (m:Msg):(Uh m).pl=true:=(rfl)
@[go_sem] theorem Zd (l:List Msg):HY (l.map Uh)=true:=Cb (fun _=>rfl) l
@[go_sem] theorem AGb (m:Msg):BA 107 (Uh m)=true:=MH ..
@[go_sem] theorem AGc (l:List Msg):(l.map Uh).all (BA 107)=true:=all_map (fun _=>MH ..) l
end
section
open Go AM
def JH (n:Int):Bool:=decide (1125899906842624<n)||decide (n< -1125899906842624)
theorem Ff (n:Int):Cl 121 [.int .i64 n] []=some (.bool (JH n),[]):=by
 rw[AAz,JH]
 by_cases h:1125899906842624<n
 ·simp(disch:=first|assumption|omega|(with_reducible rfl)|(simp only[go_sem];done)|(simp only[go_sem];omega)|fail) only[↓reduceIte,↓AL,Nat.reduceAdd,go_sem]
  rw[decide_eq_true h];rfl
 ·simp(disch:=first|assumption|omega|(with_reducible rfl)|(simp only[go_sem];done)|(simp only[go_sem];omega)|fail) only[↓reduceIte,↓AL,Nat.reduceAdd,go_sem]
  rw[decide_eq_false h];rfl
def FT (x:Vtx):Bool:= !(decide (x.id<0)||decide (64≤x.id)||JH x.val||JH x.inn||(!x.has&&decide (x.inn≠0)))
theorem XU (x:Vtx):Cl 96 [Dc x] []=some (.int .i64 (if FT x=true then 0 else 100),[]):=by
 by_cases h1:x.id<0
 ·rw[show(if FT x=true then(0:Int)else 100)=100 from if_neg (by simp[FT,h1])]
  rw[H7]
  simp only[Dc]
  simp(disch:=first|assumption|omega|(with_reducible rfl)|(simp only[go_sem];done)|(simp only[go_sem];omega)|fail) only[↓reduceIte,↓AL,Nat.reduceAdd,go_sem]
 by_cases h2:64≤x.id
 ·rw[show(if FT x=true then(0:Int)else 100)=100 from if_neg (by simp[FT,h2])]
  rw[H7]
  simp only[Dc]
  simp(disch:=first|assumption|omega|(with_reducible rfl)|(simp only[go_sem];done)|(simp only[go_sem];omega)|fail) only[↓reduceIte,↓AL,Nat.reduceAdd,go_sem]
 by_cases h3:JH x.val=true
 ·rw[show(if FT x=true then(0:Int)else 100)=100 from if_neg (by simp[FT,h3])]
  rw[H7]
  simp only[Dc]
  simp(disch:=first|assumption|omega|(with_reducible rfl)|(simp only[go_sem];done)|(simp only[go_sem];omega)|fail) only[↓reduceIte,↓AL,Nat.reduceAdd,go_sem,Ff,h3]
 by_cases h4:JH x.inn=true
 ·rw[show(if FT x=true then(0:Int)else 100)=100 from if_neg (by simp[FT,h4])]
  rw[H7]
  simp only[Dc]
  simp(disch:=first|assumption|omega|(with_reducible rfl)|(simp only[go_sem];done)|(simp only[go_sem];omega)|fail) only[↓reduceIte,↓AL,Nat.reduceAdd,go_sem,Ff,h3,h4]
 simp only[Bool.not_eq_true]at h3 h4
 cases h5:x.has
 ·by_cases h6:x.inn=0
  ·rw[show(if FT x=true then(0:Int)else 100)=0 from if_pos (by simp only[FT,h3,h4,h5,h6,decide_eq_false h1,decide_eq_false h2];rfl)]
   rw[H7]
   simp only[Dc]
   simp(disch:=first|assumption|omega|(with_reducible rfl)|(simp only[go_sem];done)|(simp only[go_sem];omega)|fail) only[↓reduceIte,↓AL,Nat.reduceAdd,go_sem,Ff,h3,h4,h5]
  ·rw[show(if FT x=true then(0:Int)else 100)=100 from if_neg (by simp[FT,h5,h6])]
   rw[H7]
   simp only[Dc]
   simp(disch:=first|assumption|omega|(with_reducible rfl)|(simp only[go_sem];done)|(simp only[go_sem];omega)|fail) only[↓reduceIte,↓AL,Nat.reduceAdd,go_sem,Ff,h3,h4,h5]
 ·rw[show(if FT x=true then(0:Int)else 100)=0 from if_pos (by simp[FT,h1,h2,h3,h4,h5])]
  rw[H7]
  simp only[Dc]
  simp(disch:=first|assumption|omega|(with_reducible rfl)|(simp only[go_sem];done)|(simp only[go_sem];omega)|fail) only[↓reduceIte,↓AL,Nat.reduceAdd,go_sem,Ff,h3,h4,h5]
def Jt (b:Bool):Nat:=if b=true then 1 else 0
theorem AER (b:Bool):Cl 98 [.bool b] []=some (.int .u64 (Jt b:Int),[]):=by
 rw[ADt]
 cases b<;>rfl
def vtxB (x:Vtx):List UInt8:=if FT x=true then Cj x.id.toNat++Cj (V7 x.val)++Cj (Jt x.act)++Cj (Jt x.has)++Cj (V7 x.inn)else[]
theorem SX {a:V} {f:Fl} {l:List UInt8} {n:Int} (hf:OK f) (h1:I64 n) (hl:l.length≤2000000000):Cl 97 [D6 1,.int .i64 n] [a,BJ f l]=some (.tup [],[a,BJ .own (l++Cj (V7 n))]):=XH (h:=[a,BJ f l]) (id:=1) rfl hf h1.1 h1.2 (by omega)
theorem WJ (b:Bool):(Jt b:Int)<18446744073709551616:=by cases b<;>decide
theorem Ze (x:Vtx):(vtxB x).length≤50:=by
 have a:=BU 10 x.id.toNat;have b:=BU 10 (V7 x.val);have c:=BU 10 (V7 x.inn)
 have d:=BU 10 (Jt x.act);have e:=BU 10 (Jt x.has)
 simp only[vtxB];split
 ·simp only[List.length_append,Cj];omega
 ·simp
theorem ABn {x:Vtx} (hx:VOk x):Cl 67 [Dc x] []=some (.str (vtxB x),[]):=by
 obtain⟨x1,x2,x3⟩:=hx
 have hc:=XU x
 by_cases h:FT x=true
 ·have h0:0≤x.id:=by simp only[FT,Bool.not_eq_true',Bool.or_eq_false_iff,decide_eq_false_iff_not]at h;omega
  have hlt:x.id<18446744073709551616:=by have:=x1.2;omega
  rw[if_pos h]at hc
  rw[vtxB,if_pos h,Ym]
  have a:=BU 10 x.id.toNat;have b:=BU 10 (V7 x.val);have c:=BU 10 (V7 x.inn)
  have d:=BU 10 (Jt x.act);have e:=BU 10 (Jt x.has)
  generalize ha:Cj x.id.toNat=n1
  generalize hb:Cj (V7 x.val)=n2
  generalize hd:Cj (Jt x.act)=n3
  generalize he:Cj (Jt x.has)=n4
  have s1:∀w:V,Cl 46 [D6 1,.int .u64 x.id] [w,BJ .nil []]=_:=fun w=>MR (a:=w) (f:= .nil) (l:=[]) AEN h0 hlt (by simp)
  rw[ha,List.nil_append]at s1
  have t1:n1.length≤10:=ha▸a
  have s2:∀w:V,Cl 97 [D6 1,.int .i64 x.val] [w,BJ .own n1]=_:=fun w=>SX (a:=w) QG x2 (by omega)
  rw[hb]at s2
  have t2:n2.length≤10:=hb▸b
  have s3:∀w:V,Cl 46 [D6 1,.int .u64 (Jt x.act:Int)] [w,BJ .own (n1++n2)]=_:=fun w=>MR (a:=w) QG (by omega) (WJ _) (by simp only[List.length_append];omega)
  rw[Int.toNat_natCast,hd]at s3
  have t3:n3.length≤10:=hd▸d
  have s4:∀w:V,Cl 46 [D6 1,.int .u64 (Jt x.has:Int)] [w,BJ .own (n1++n2++n3)]=_:=fun w=>MR (a:=w) QG (by omega) (WJ _) (by simp only[List.length_append];omega)
  rw[Int.toNat_natCast,he]at s4
  have t4:n4.length≤10:=he▸e
  have s5:∀w:V,Cl 97 [D6 1,.int .i64 x.inn] [w,BJ .own (n1++n2++n3++n4)]=_:=fun w=>SX (a:=w) QG x3 (by simp only[List.length_append];omega)
  have hb1:∀b,Cl 98 [.bool b] []=_:=AER
  simp only[List.append_assoc]at s3 s4 s5⊢
  simp only[Dc]at hc⊢
  simp(disch:=first|assumption|omega|(with_reducible rfl)|(simp only[go_sem];done)|(simp only[go_sem];omega)|fail) only[↓reduceIte,↓AL,Nat.reduceAdd,go_sem,hc,ZW,s1,s2,s3,s4,s5,hb1,XO]
 ·rw[if_neg h]at hc
  rw[vtxB,if_neg h,Ym]
  simp only[Dc]at hc⊢
  simp(disch:=first|assumption|omega|(with_reducible rfl)|(simp only[go_sem];done)|(simp only[go_sem];omega)|fail) only[↓reduceIte,↓AL,Nat.reduceAdd,go_sem,hc]
abbrev Zf (n:Nat):V:= .win 0 [] 0 n 9
abbrev XV (d:List (List UInt8)):V:= .row 9 (d.map V.str)
theorem XW (n:Nat) (f:Fl) (l:List Vtx):V.under n (.lst 81 f (l.map Dc))=true:=by
 have:=(V.PF (.agg 0 (l.map Dc)) (KL l)).under n
 cases f<;>first|rfl|exact this
theorem Zg {l:List Vtx} (hl:∀x∈l,VOk x) (hn:l.length≤1000000) (f:Fl):∀(n i:Nat) (d:List (List UInt8)),i+n=l.length→d.length=l.length→
 PU (Zf l.length) (.lst 81 f (l.map Dc)) (.int .i64 (l.length:Int)) (.int .i64 (i:Int)) [XV d]=some (.lst 9 .sh ((d.take i++(l.drop i).map vtxB).map V.str),[]):=by
 intro n
 induction n with
 |zero=>
  intro i d hi hd
  have e1:l.drop i=[]:=List.drop_eq_nil_of_le (by omega)
  rw[e1,List.map_nil,List.append_nil,List.take_of_length_le (by omega),OL]
  have c:Ae [XV d] (Zf l.length)=some (d.map V.str):=by
   simp only[Ae,rd,List.getElem?_cons_zero,Option.bind_some,V.at,V.items,List.drop_zero]
   simp only[V.items,Option.map_some,Option.bind_some]
   rw[←hd];exact congrArg some (List.take_of_length_le (by simp))
  have fin:AV 0 [XV d] (Zf l.length)=some (.lst 9 .sh (d.map V.str),[]):=by
   have cl:AQ (d.map V.str)=true:=by
    clear c hd;induction d with
    |nil=>rfl
    |cons x t ih=>simp only[List.map_cons,AQ,ih];rfl
   have nl:AU (d.map V.str)=d.map V.str:=by
    clear c hd cl;induction d with
    |nil=>rfl
    |cons x t ih=>simp only[List.map_cons,AU,ih];rfl
   simp only[AV,V.unmut,c,cl,nl,if_true]
   rfl
  simp(disch:=first|assumption|omega|(with_reducible rfl)|(simp only[go_sem];done)|(simp only[go_sem];omega)|fail) only[↓reduceIte,↓AL,Nat.reduceAdd,go_sem,fin]
 |succ n ih=>
  intro i d hi hd
  have h:i<l.length:=by omega
  have hx:=hl _ (List.getElem_mem h)
  have hr:=ABn hx
  have:=ih (i+1) (d.set i (vtxB l[i])) (by omega) (by simp[hd])
  have e:(d.set i (vtxB l[i])).take (i+1)++(l.drop (i+1)).map vtxB=d.take i++(l.drop i).map vtxB:=by
   rw[List.drop_eq_getElem_cons h,List.map_cons,List.take_add_one,List.take_set_of_le (by omega),List.getElem?_set_self (by omega)]
   simp
  rw[e]at this
  rw[←this,OL]
  have ix:E8 9 (V.weak (Zf l.length)) (.int .i64 (i:Int))=some (.ref 0 [i] 9):=by
   simp only[V.weak,E8,inside]
   simp;omega
  have hu:=XW 1 f l
  rw[XV,XV,List.map_set]
  simp(disch:=first|assumption|omega|(with_reducible rfl)|(simp only[go_sem];done)|(simp only[go_sem];omega)|fail) only[↓reduceIte,↓AL,Nat.reduceAdd,go_sem,AGL h,hr,ix,hu]
theorem SY {l:List Vtx} (hl:∀x∈l,VOk x) (hn:l.length≤1000000) (f:Fl):Cl 36 [.lst 81 f (l.map Dc)] []=some (.lst 9 .sh ((l.map vtxB).map V.str),[]):=by
 have h:=Zg hl hn f l.length 0 (List.replicate l.length []) (by omega) (by simp)
 rw[List.take_zero,List.nil_append,List.drop_zero]at h
 simp only[c0]at h
 have mk:mkL 9 (.str []) (.int .i64 (l.length:Int)) (.int .i64 (l.length:Int))=some (.lst 9 .own (List.replicate l.length (.str []))):=by
  simp only[mkL]
  rw[if_pos ⟨by omega,by omega,by omega⟩];rfl
 have tb:DZ [] (.lst 9 .own (List.replicate l.length (.str [])))=some (Zf l.length,[XV (List.replicate l.length [])]):=by
  simp[DZ]
 rw[←h,ADY]
 simp(disch:=first|assumption|omega|(with_reducible rfl)|(simp only[go_sem];done)|(simp only[go_sem];omega)|fail) only[↓reduceIte,↓AL,Nat.reduceAdd,go_sem,mk,tb]
theorem AES (l:List Vtx):Short (l.map vtxB):=by
 intro s hs
 obtain⟨x,_,rfl⟩:=List.mem_map.1 hs
 have:=Ze x;omega
def vrootB (l:List Vtx):List UInt8:=ACy (l.map vtxB)
theorem Si {l:List Vtx} (hl:∀x∈l,VOk x) (hn:l.length≤1000000) (f:Fl):Cl 35 [.lst 81 f (l.map Dc)] []=some (Aw (vrootB l),[]):=by
 have h:=SY hl hn
 rw[ADX,MN]
 simp(disch:=first|assumption|omega|(with_reducible rfl)|(simp only[go_sem];done)|(simp only[go_sem];omega)|fail) only[↓reduceIte,↓AL,Nat.reduceAdd,go_sem,h,ABj (l:=l.map vtxB) (by simp;omega) (AES l)]
 rfl
end
section
open Go AM
theorem IC {f:FuncId} {id:Nat} {p:List Nat} {t:TypeId} {vs vs' h:List V} {v r:V} (he:CZ.ext f=false) (hp:CZ.pure f=true) (hh:h[id]?=some v) (haw:Au id (h.set id void)=true)
 (hv:Au id vs=true) (hrf:AA (h.set id void) vs=vs') (hr:r.away id=true) (e:Cl f vs' []=some (r,[])) (k:V→List V→Rv) (hs:(CZ.seq f).1=0:=by kernel_rfl) (ht:CZ.two f=false:=by kernel_rfl):
 BO P CZ W (some (.ref id p t)) (.clo f []) vs h k=k r h:=by
 have hlt:=Pq hh
 simp only[BO,hh,haw,hv]
 rw[if_pos (show(V.away id (.clo f [])&&true&&true)=true from rfl),AA9 _ he hp hs ht,List.append_nil,hrf]
 refine(AB e _).trans ?_
 rw[if_pos (by rw[hr,haw,List.length_set];simp only[Bool.true_and];exact Nat.ble_eq_true_of_le hlt),List.set_set]
 congr 1
 exact(List.ext_getElem? fun i=>by
  by_cases hi:i=id
  ·subst hi;rw[List.getElem?_set_self hlt,hh]
  ·rw[List.getElem?_set_ne (Ne.symm hi)])
theorem MV {h:List V} {id i:Nat} {u e t:TypeId} {f:Fl} {fs xs:List V} (hh:h[id]?=some (.agg u fs)) (hf:fs[i]?=some (.lst e f xs)):BI h t (.ref id [i] t)=some (.lst e f xs,h.set id (.agg u (fs.set i (.lst e f.wk xs)))):=by
 simp only[BI,if_true,rd,wr,hh,Option.bind_some,V.at,V.upd,hf,XJ,Option.map_some]
@[go_sem] theorem AId (t u:TypeId) (xs ys:List V):Gu true [.lst t .own xs,.lst u .own ys]=true:=(rfl)
@[go_sem] theorem AIe (t u:TypeId) (xs ys:List V):Gu true [.lst t .nil xs,.lst u .own ys]=true:=(rfl)
structure Bk where
 step:Int
 gone:List Bool
 roots:List (List UInt8)
 known:List (List (List UInt8))
 sent:List Msg
 deriving DecidableEq
abbrev tBk:TypeId:=32
def sS (l:List (List UInt8)):V:= .lst 9 .sh (l.map V.str)
abbrev Nu (f0 f1 f2 f3:Fl) (b:Bk):V:= .agg tBk [.int .i64 b.step,.lst 4 f0 (b.gone.map V.bool),.lst 55 f1 (b.roots.map Aw),.lst 58 f2 (b.known.map sS),.lst 108 f3 (b.sent.map Uh)]
abbrev vB (b:Bk):V:=Nu .sh .sh .sh .sh b
def zB:Bk:=⟨0,[],[],[],[]⟩
@[go_sem] theorem AHV (l:List (List UInt8)):(sS l).weak=sS l:=(rfl)
@[go_sem] theorem AC1 (l:List (List UInt8)):(sS l).pl=true:=ZU l
@[go_sem] theorem AEU (l:List (List (List UInt8))):HY (l.map sS)=true:=Cb AC1 l
@[go_sem] theorem XY (l:List Bool):HY (l.map V.bool)=true:=Cb (fun _=>rfl) l
@[go_sem] theorem AEV (l:List (List UInt8)):Qk 9 (sS l)=true:=(rfl)
@[go_sem] theorem AIf (l:List (List (List UInt8))):(l.map sS).all (Qk 9)=true:=all_map AEV l
@[go_sem] theorem AE9 (l:List Bool):(l.map V.bool).all AM.tyB=true:=all_map (fun _=>rfl) l
@[go_sem] theorem XZ (l:List (List UInt8)):HY (l.map Aw)=true:=Cb ML l
def BL (g:Grf) (j:Job) (N w:Nat):List Vtx:=(ofL g.n.toNat N w).map fun(v:Nat)=>firstX j (v:Int)
def Cc (g:Grf) (j:Job) (N:Nat):Bk:=⟨0,List.replicate N false,(List.range N).map fun w=>vrootB (BL g j N w),(List.range N).map fun w=>(BL g j N w).map vtxB,[]⟩
theorem Xa (j:Job) {v:Nat} (hv:v<64):VOk (firstX j (v:Int)):=by
 have: -9223372036854775808≤(37*(v:Int)+11).tmod 64∧(37*(v:Int)+11).tmod 64<9223372036854775808:=by
  rw[Int.tmod_eq_emod_of_nonneg (by omega)];omega
 simp only[VOk,firstX,I64]
 repeat' split
 all_goals (simp only[];omega)
theorem WL {g:Grf} (hg:g.n≤64) (j:Job) (N w:Nat):∀x∈BL g j N w,VOk x:=by
 intro x hx
 obtain⟨v,hv,rfl⟩:=List.mem_map.1 hx
 have:=Ue hv
 exact Xa j (by omega)
theorem Sj (g:Grf) (j:Job) (N w:Nat):(BL g j N w).length≤g.n.toNat:=by
 rw[BL,List.length_map];exact Gf _ _ _
theorem Gg (l:List Vtx):(vrootB l).length=32:=XM _ _
attribute [local irreducible] vrootB vtxB firstX
def Fg (g:Grf) (j:Job) (N w:Nat):Bk:=⟨0,List.replicate N false,(List.range w).map fun w=>vrootB (BL g j N w),(List.range w).map fun w=>(BL g j N w).map vtxB,[]⟩
theorem Sm (h:List V) (f:Fl) (l:List Vtx) (hf:f= .sh∨f= .nil):AA h [.lst 81 f (l.map Dc)]=[.lst 81 .sh (l.map Dc)]:=by
 rcases hf with rfl|rfl<;>rfl
theorem Zh {g:Grf} (hg:g.n≤64) (h1:1≤g.n) {j:Job} {N w:Nat} (hN:N≤64) (hw:w<N) {f f1 f2:Fl} (hf:f= .own∨f= .nil) (hf1:f1= .own∨f1= .nil) (hf2:f2= .own∨f2= .nil) (a z:V) (ha:a.away 3=true) (hz:z.away 3=true) {L:List Nat} (i m0:Nat) (hL:L.length=i):
 KY (.int .i64 (N:Int)) (.ref 0 [] 24) (.ref 1 [] 26) (.ref 2 [] 33) (.ref 3 [] 33) (.lst 81 f ((BL g j N w).map Dc)) (.int .i64 (N:Int)) (.int .i64 (w:Int)) (Uf .sh L) (.int .i64 (i:Int)) (.int .i64 (i:Int)) m0 [a,vJ j,z,Nu .sh f1 f2 .nil (Fg g j N w)]=
  JC (.int .i64 (N:Int)) (.ref 0 [] 24) (.ref 1 [] 26) (.ref 2 [] 33) (.ref 3 [] 33) (.int .i64 (N:Int)) (.int .i64 ((w+1:Nat):Int)) [a,vJ j,z,Nu .sh .own .own .nil (Fg g j N (w+1))]:=by
 have hl:=Sj g j N w
 have ok:=WL hg j N w
 have hR:=Si ok (by omega) .sh
 have hW:=SY ok (by omega) .sh
 have e1:(Fg g j N (w+1)).roots=(Fg g j N w).roots++[vrootB (BL g j N w)]:=by simp[Fg,List.range_succ]
 have e2:(Fg g j N (w+1)).known=(Fg g j N w).known++[(BL g j N w).map vtxB]:=by simp[Fg,List.range_succ]
 have e3:(Fg g j N (w+1)).gone=(Fg g j N w).gone:=rfl
 have e4:(Fg g j N (w+1)).step=(Fg g j N w).step:=rfl
 have e5:(Fg g j N (w+1)).sent=(Fg g j N w).sent:=rfl
 have l1:(Fg g j N w).roots.length=w:=by simp[Fg]
 have l2:(Fg g j N w).known.length=w:=by simp[Fg]
 have l3:=Gg (BL g j N w)
 rw[show Nu .sh .own .own .nil (Fg g j N (w+1))= .agg tBk [.int .i64 (Fg g j N w).step,.lst 4 .sh ((Fg g j N w).gone.map V.bool),.lst 55 .own (((Fg g j N w).roots++[vrootB (BL g j N w)]).map Aw),.lst 58 .own (((Fg g j N w).known++[(BL g j N w).map vtxB]).map sS),.lst 108 .nil ((Fg g j N w).sent.map Uh)]from by rw[←e1,←e2,←e3,←e4,←e5]]
 generalize Fg g j N w=b at*
 generalize hrt:vrootB (BL g j N w)=rt at*
 generalize hkn:(BL g j N w).map vtxB=kn at*
 generalize BL g j N w=xs at*
 have hfw:f.wk= .sh∨f.wk= .nil:=by rcases hf with rfl|rfl<;>simp[Fl.wk]
 have aw:∀v:V,Au 3 ([a,vJ j,z,v].set 3 void)=true:=by
  intro v
  simp only[List.set_cons_succ,List.set_cons_zero,Au,ha,hz];rfl
 have avx:∀f:Fl,f= .sh∨f= .nil→Au 3 [.lst 81 f (xs.map Dc)]=true:=by rintro f (rfl|rfl)<;>rfl
 have c1:∀(v:V) (k:V→List V→Rv),BO P CZ W (some (.ref 3 [] 33)) (.clo 35 []) [.lst 81 f.wk (xs.map Dc)] [a,vJ j,z,v] k=k (Aw rt) [a,vJ j,z,v]:=
  fun v k=>IC (by kernel_rfl) (by kernel_rfl) (v:=v) rfl (aw v) (avx _ hfw) (Sm _ _ _ hfw) ((V.PF _ (ML _)).away 3) hR k
 have c2:∀(v:V) (k:V→List V→Rv),BO P CZ W (some (.ref 3 [] 33)) (.clo 36 []) [.lst 81 f.wk (xs.map Dc)] [a,vJ j,z,v] k=k (sS kn) [a,vJ j,z,v]:=
  fun v k=>IC (by kernel_rfl) (by kernel_rfl) (v:=v) rfl (aw v) (avx _ hfw) (Sm _ _ _ hfw) ((V.PF _ (AC1 _)).away 3) hW k
 have t1:BI [a,vJ j,z,Nu .sh f1 f2 .nil b] 29 (.ref 3 [2] 29)=some (.lst 55 f1 (b.roots.map Aw),[a,vJ j,z,Nu .sh f1.wk f2 .nil b]):=MV (h:=[a,vJ j,z,Nu .sh f1 f2 .nil b]) (id:=3) rfl rfl
 have t2:BI [a,vJ j,z,Nu .sh f1.wk f2 .nil b] 30 (.ref 3 [3] 30)=some (.lst 58 f2 (b.known.map sS),[a,vJ j,z,Nu .sh f1.wk f2.wk .nil b]):=MV (h:=[a,vJ j,z,Nu .sh f1.wk f2 .nil b]) (id:=3) rfl rfl
 rw[OG]
 simp only[Nu]at t1 t2
 have sb2:Es (.ref 3 [] 33) (.ref 3 [2] 29)=true:=rfl
 have sb3:Es (.ref 3 [] 33) (.ref 3 [3] 30)=true:=rfl
 have hm:∀x:List UInt8,(b.roots++[x]).map Aw=b.roots.map Aw++[Aw x]:=by simp
 have hm2:∀x,(b.known++[x]).map sS=b.known.map sS++[sS x]:=by simp
 rw[hm,hm2]
 rcases hf1 with rfl|rfl<;>rcases hf2 with rfl|rfl
 all_goals simp only[MB,MC]at t1 t2
 all_goals simp(disch:=first|assumption|omega|(with_reducible rfl)|(simp only[go_sem];done)|(simp only[go_sem];omega)|fail) only[↓reduceIte,↓AL,Nat.reduceAdd,go_sem,c1,c2,t1,t2,sb2,sb3]
theorem ABo {g:Grf} (hg:g.n≤64) (h1:1≤g.n) {j:Job} {N w:Nat} (hN:N≤64) (hw:w<N) {f1 f2:Fl} (hf1:f1= .own∨f1= .nil) (hf2:f2= .own∨f2= .nil) (a z:V) (ha:a.away 3=true) (hz:z.away 3=true) (m0:Nat):∀(n i:Nat) (f:Fl),(f= .own∨f= .nil)→i+n=(ofL g.n.toNat N w).length→
 KY (.int .i64 (N:Int)) (.ref 0 [] 24) (.ref 1 [] 26) (.ref 2 [] 33) (.ref 3 [] 33) (.lst 81 f (((ofL g.n.toNat N w).take i).map fun(v:Nat)=>Dc (firstX j (v:Int)))) (.int .i64 (N:Int)) (.int .i64 (w:Int)) (Uf .sh (ofL g.n.toNat N w)) (.int .i64 ((ofL g.n.toNat N w).length:Int)) (.int .i64 (i:Int)) m0 [a,vJ j,z,Nu .sh f1 f2 .nil (Fg g j N w)]=
  JC (.int .i64 (N:Int)) (.ref 0 [] 24) (.ref 1 [] 26) (.ref 2 [] 33) (.ref 3 [] 33) (.int .i64 (N:Int)) (.int .i64 ((w+1:Nat):Int)) [a,vJ j,z,Nu .sh .own .own .nil (Fg g j N (w+1))]:=by
 intro n
 induction n with
 |zero=>
  intro i f hf hi
  have h:=Zh hg h1 hN hw hf hf1 hf2 a z ha hz (L:=ofL g.n.toNat N w) i m0 (j:=j) (by omega)
  rw[show(ofL g.n.toNat N w).length=i by omega,List.take_of_length_le (by omega)]
  rw[BL,List.map_map]at h
  exact h
 |succ n ih=>
  intro i f hf hi
  have hlen:=Gf g.n.toNat N w
  have hl:i<(ofL g.n.toNat N w).length:=by omega
  have h2:=Ue (List.getElem_mem hl)
  have hx:=SS j (v:=((ofL g.n.toNat N w)[i]:Nat)) (by omega) (by omega)
  have hc:∀(k:V×List V→Rv),((Cl 34 [vJ j,.int .i64 ((ofL g.n.toNat N w)[i]:Int)] []).bind k)=k (Dc (firstX j ((ofL g.n.toNat N w)[i]:Int)),[]):=fun k=>AB hx k
  have ih':=ih (i+1) .own (Or.inl rfl) (by omega)
  have ix:E8 3 (Uf .sh (ofL g.n.toNat N w)) (.int .i64 (i:Int))=some (.rop 3 (.int .i64 ((ofL g.n.toNat N w)[i]:Int))):=by
   rw[Uf,MI,List.getElem?_map,List.getElem?_eq_getElem hl];rfl
  rw[←List.take_append_getElem hl,List.map_append]at ih'
  generalize hX:(ofL g.n.toNat N w)[i]=x at*
  generalize hF:firstX j (x:Int)=y at*
  generalize Nu .sh f1 f2 .nil (Fg g j N w)=b at*
  generalize Nu .sh .own .own .nil (Fg g j N (w+1))=b2 at*
  generalize ofL g.n.toNat N w=L at*
  simp only[List.map_cons,List.map_nil,hF]at ih'
  rw[←ih',OG]
  rcases hf with rfl|rfl
  all_goals simp(disch:=first|assumption|omega|(with_reducible rfl)|(simp only[go_sem];done)|(simp only[go_sem];omega)|fail) only[↓reduceIte,↓AL,Nat.reduceAdd,go_sem,hc,ix,hF]
theorem ABp (g:Grf) (j:Job) (N:Nat):Cc g j N=Fg g j N N:=rfl
theorem ABq {g:Grf} (hg:g.n≤64) (h1:1≤g.n) {j:Job} {N:Nat} (hN:N≤64) (hN1:1≤N):∀(n w:Nat) (f1 f2:Fl),(f1= .own∨f1= .nil)→(f2= .own∨f2= .nil)→w+n=N→
 JC (.int .i64 (N:Int)) (.ref 0 [] 24) (.ref 1 [] 26) (.ref 2 [] 33) (.ref 3 [] 33) (.int .i64 (N:Int)) (.int .i64 (w:Int)) [vG .sh g,vJ j,Nu .nil .nil .nil .nil zB,Nu .sh f1 f2 .nil (Fg g j N w)]=some (.tup [vB (Cc g j N),.int .i64 0],[]):=by
 intro n
 induction n with
 |zero=>
  intro w f1 f2 hf1 hf2 hi
  obtain rfl:w=N:=by omega
  rw[ABp,OH]
  generalize Fg g j w w=b at*
  rcases hf1 with rfl|rfl<;>rcases hf2 with rfl|rfl
  all_goals simp(disch:=first|assumption|omega|(with_reducible rfl)|(simp only[go_sem];done)|(simp only[go_sem];omega)|fail) only[↓reduceIte,↓AL,Nat.reduceAdd,go_sem]
  all_goals rfl
 |succ n ih=>
  intro w f1 f2 hf1 hf2 hi
  have hw:w<N:=by omega
  have hL:=ABo hg h1 (j:=j) hN hw hf1 hf2 (vG .sh g) (Nu .nil .nil .nil .nil zB) rfl rfl 4 (ofL g.n.toNat N w).length 0 .nil (Or.inr rfl) (by omega)
  have hof:=Zb (n:=g.n.toNat) (N:=N) (w:=w) (by omega) (by omega) (by omega) hN hw
  have hlen:=Gf g.n.toNat N w
  rw[show(g.n.toNat:Int)=g.n by omega]at hof
  rw[←ih (w+1) .own .own (Or.inl rfl) (Or.inl rfl) (by omega),←hL,OH]
  clear ih hL
  generalize Nu .sh f1 f2 .nil (Fg g j N w)=b at*
  generalize Nu .sh .own .own .nil (Fg g j N (w+1))=b2 at*
  generalize ofL g.n.toNat N w=L at*
  simp(disch:=first|assumption|omega|(with_reducible rfl)|(simp only[go_sem];done)|(simp only[go_sem];omega)|fail) only[↓reduceIte,↓AL,Nat.reduceAdd,go_sem,hof]
  rfl
theorem QI {g:Grf} {j:Job} (hj:Hf g j=true):1≤g.n∧g.n≤64:=by
 have hg:IA g=0:=(of_decide_eq_true hj).1
 rw[IA]at hg
 by_cases h:1≤g.n∧g.n≤64∧g.es.length≤512∧g.es.any (EW g.n)=false
 ·exact⟨h.1,h.2.1⟩
 ·rw[if_neg h]at hg;omega
theorem Zi {g:Grf} (hl:g.es.length<1000000) (j:Job) (w:Int):Cl 10 [vG .sh g,vJ j,.int .i64 w] []=some (if Hg g j w=true then .tup [vB (Cc g j w.toNat),.int .i64 0]else .tup [vB zB,.int .i64 170],[]):=by
 have hc:=Oo hl j
 by_cases hb:Hg g j w=true
 ·simp only[Hg,Bool.and_eq_true,decide_eq_true_eq]at hb
  obtain⟨hj,h1,h2⟩:=hb
  have hg':=QI hj
  obtain⟨N,rfl⟩:=Int.eq_ofNat_of_zero_le (show 0≤w by omega)
  have h0:=ABq hg'.2 hg'.1 (j:=j) (N:=N) (by omega) (by omega) N 0 .nil .nil (Or.inr rfl) (Or.inr rfl) (by omega)
  rw[if_pos (by simp only[Hg,hj,Bool.true_and,decide_eq_true_eq];omega)]
  rw[if_pos hj]at hc
  rw[Yb]
  simp only[Int.toNat_natCast]
  rw[←h0]
  generalize Cc g j N=b at*
  have hu:Fg g j N 0=⟨0,List.replicate N false,[],[],[]⟩:=rfl
  rw[hu]
  have mk:mkL 4 (.bool false) (.int .i64 (N:Int)) (.int .i64 (N:Int))=some (.lst 4 .own ((List.replicate N false).map V.bool)):=by
   rw[List.map_replicate]
   simp only[mkL]
   rw[if_pos (by omega),Int.toNat_natCast]
  simp(disch:=first|assumption|omega|(with_reducible rfl)|(simp only[go_sem];done)|(simp only[go_sem];omega)|fail) only[↓reduceIte,↓AL,Nat.reduceAdd,go_sem,hc,mk]
  rfl
 ·rw[if_neg hb,Yb]
  simp only[Hg]at hb
  generalize Hf g j=q at*
  repeat' first|rfl|refine SC (fun _=> ?_) (fun _=> ?_)|refine SE (fun _=> ?_) (fun _=> ?_)|simp(disch:=first|assumption|omega|(with_reducible rfl)|(simp only[go_sem];done)|(simp only[go_sem];omega)|fail) only[↓reduceIte,↓AL,Nat.reduceAdd,go_sem,hc]
  all_goals simp_all
  all_goals omega
end
section
open Go AM
end
section
open Go AM
attribute [local irreducible] vrootB vtxB firstX
end
section
open Go AM
theorem Sr {g:Grf} (hl:g.es.length<1000000):Cl 11 [vG .sh g] []=some (vG .sh g,[]):=by
 rw[ADO]
 have ap:∀h:List V,PO 112 (BA 111) false h (.lst 112 .own []) (.lst 112 .sh (g.es.map Gx))=some (.lst 112 .own ([]++g.es.map Gx)):=fun h=>
  KJ (V.PFL _ (QA g.es)).clean (all_map WB _) (by simp;omega) _ _ _
 simp(disch:=first|assumption|omega|(with_reducible rfl)|(simp only[go_sem];done)|(simp only[go_sem];omega)|fail) only[↓reduceIte,↓AL,Nat.reduceAdd,go_sem,ap]
end
section
open Go AM
theorem Sv {f:FuncId} {id:Nat} {p:List Nat} {t:TypeId} {cs vs h h':List V} {v r:V} (he:CZ.ext f=false) (hp:CZ.pure f=false) (hh:h[id]?=some v) (haw:Au id (h.set id void)=true)
 (hx:V.away id (.clo f cs)=true) (hv:Au id vs=true) (hr:r.away id=true) (ha2:Au id h'=true) (hlt:id<h'.length) (e:Cl f (AU (vs++cs)) (h.set id void)=some (r,h')) (k:V→List V→Rv) (hs:(CZ.seq f).1=0:=by kernel_rfl):
 BO P CZ W (some (.ref id p t)) (.clo f cs) vs h k=k r (h'.set id v):=by
 simp only[BO,hh,haw,hv,hx]
 rw[if_pos (show(true&&true&&true)=true from rfl),Rl _ he hp hs]
 refine(AB e _).trans ?_
 rw[if_pos (by rw[hr,ha2];simp only[Bool.true_and];exact Nat.ble_eq_true_of_le hlt)]
abbrev tWk:TypeId:=113
abbrev Ui (g:Grf) (j:Job) (N w:Nat) (f:Fl) (xs:List Vtx):V:= .agg tWk [vG .sh g,vJ j,.int .i64 (N:Int),.int .i64 (w:Int),.int .i64 0,.lst 81 .nil [],.lst 81 f (xs.map Dc),.bool false]
section
variable {a b c:V}
theorem ABr {g:Grf} {j:Job} {N w:Nat} (ha:Au 5 [a,b,c]=true) {L:List Nat} (hL:∀v∈L,v<64) (hn:L.length≤64):∀(n i:Nat) (f:Fl) (xs:List Vtx),i+n=L.length→xs.length=i→(f= .own∨f= .nil)→∃f':Fl,(f'= .own∨f'= .nil)∧
 PS (.ref 4 [] 26) (.ref 5 [] 114) (Uf .sh L) (.int .i64 (L.length:Int)) (.int .i64 (i:Int)) 3 [a,b,c,vG .sh g,vJ j,Ui g j N w f xs]=
  some (.tup [.ref 5 [] 114,.int .i64 0],[a,b,c,vG .sh g,vJ j,Ui g j N w f' (xs++(L.drop i).map fun(v:Nat)=>firstX j (v:Int))]):=by
 intro n
 induction n with
 |zero=>
  intro i f xs hi hx hf
  refine⟨f,hf,?_⟩
  have ls:AO .lss (.int .i64 (i:Int)) (.int .i64 (L.length:Int))=some (.bool false):=by rw[b_lss,decide_eq_false (by omega)]
  rw[List.drop_eq_nil_of_le (by omega),List.map_nil,List.append_nil,OI]
  simp(disch:=first|assumption|omega|(with_reducible rfl)|(simp only[go_sem];done)|(simp only[go_sem];omega)|fail) only[↓reduceIte,↓AL,Nat.reduceAdd,go_sem,ls]
  rfl
 |succ n ih=>
  intro i f xs hi hx hf
  have h:i<L.length:=by omega
  have hv:=hL _ (List.getElem_mem h)
  obtain⟨f',hf',ih'⟩:=ih (i+1) .own (xs++[firstX j (L[i]:Int)]) (by omega) (by simp;omega) (Or.inl rfl)
  refine⟨f',hf',?_⟩
  have ls:AO .lss (.int .i64 (i:Int)) (.int .i64 (L.length:Int))=some (.bool true):=by rw[b_lss,decide_eq_true (by omega)]
  have ix:E8 3 (Uf .sh L) (.int .i64 (i:Int))=some (.rop 3 (.int .i64 (L[i]:Int))):=by
   rw[Uf,MI,List.getElem?_map,List.getElem?_eq_getElem h];rfl
  have hfi:=SS j (v:=(L[i]:Int)) (by omega) (by omega)
  have ad:AO .add (.int .i64 (i:Int)) (.int .i64 1)=some (.int .i64 ((i+1:Nat):Int)):=by rw[FZ,wrap_i64 (by omega) (by omega)];rfl
  have pg:(vG .sh g).pl=true:=by simp only[go_sem]
  have aw:∀v:V,Au 5 ([a,b,c,vG .sh g,vJ j,v].set 5 void)=true:=by
   intro v
   simp only[Au,Bool.and_eq_true]at ha
   simp only[List.set_cons_succ,List.set_cons_zero,Au,ha.1,ha.2.1,ha.2.2.1,(V.PF _ pg).away];rfl
  have rj:∀h:List V,AA h [vJ j,.int .i64 (L[i]:Int)]=[vJ j,.int .i64 (L[i]:Int)]:=fun h=>rfl
  have cf:∀(v:V) (k:V→List V→Rv),BO P CZ W (some (.ref 5 [] 114)) (.clo 34 []) [vJ j,.int .i64 (L[i]:Int)] [a,b,c,vG .sh g,vJ j,v] k=k (Dc (firstX j (L[i]:Int))) [a,b,c,vG .sh g,vJ j,v]:=
   fun v k=>IC (by kernel_rfl) (by kernel_rfl) (v:=v) rfl (aw v) rfl (rj _) ((V.PF _ (AEJ _)).away 5) hfi k
  have tk:∀(y0 y1 y2 y3 y4 y5 y7:V) (q:Fl) (R:List V),BI [a,b,c,vG .sh g,vJ j,.agg tWk [y0,y1,y2,y3,y4,y5,.lst 81 q R,y7]] 74 (.ref 5 [6] 74)=some (.lst 81 q R,[a,b,c,vG .sh g,vJ j,.agg tWk [y0,y1,y2,y3,y4,y5,.lst 81 q.wk R,y7]]):=
   fun y0 y1 y2 y3 y4 y5 y7 q R=>MV (h:=[a,b,c,vG .sh g,vJ j,.agg tWk [y0,y1,y2,y3,y4,y5,.lst 81 q R,y7]]) (id:=5) rfl rfl
  have sb6:∀p t,Es (.ref 5 [] 114) (.ref 5 p t)=true:=fun _ _=>rfl
  have sb4:Es (.ref 4 [] 26) (.ref 4 [] 26)=true:=rfl
  have df:(Qc (.ref 5 [] 114) (.ref 4 [] 26)&&true)=true:=rfl
  have nn:Bz (.ref 5 [] 114)=some (.ref 5 [] 114):=rfl
  have ap:∀h:List V,PO 81 (BA tVx) false h (.lst 81 f (xs.map Dc)) (.lst 81 .own [Dc (firstX j (L[i]:Int))])=some (.lst 81 .own ((xs++[firstX j (L[i]:Int)]).map Dc)):=fun h=>by
   have cl:AQ [Dc (firstX j (L[i]:Int))]=true:=rfl
   have ty:[Dc (firstX j (L[i]:Int))].all (BA tVx)=true:=rfl
   rw[List.map_append]
   rcases hf with rfl|rfl
   ·rw[KJ cl ty (by simp;omega)];rfl
   ·rw[ZL cl ty (by simp;omega)];rfl
  have e:xs++(L.drop i).map (fun(v:Nat)=>firstX j (v:Int))=xs++[firstX j (L[i]:Int)]++(L.drop (i+1)).map (fun(v:Nat)=>firstX j (v:Int)):=by
   rw[List.drop_eq_getElem_cons h,List.map_cons,List.append_assoc];rfl
  rw[e,←ih',OI]
  clear ih ih' e aw hL hfi
  generalize firstX j (L[i]:Int)=y at*
  generalize (L[i]:Int)=z at*
  generalize (i+1:Nat)=i2 at*
  generalize (L.length:Int)=ll at*
  generalize Uf .sh L=LL at*
  rcases hf with rfl|rfl
  all_goals (repeat' with_reducible first|refine(G8 _ _).trans ?_|refine(G9 _ _).trans ?_|refine(AL _ _).trans ?_|((first|(refine' (AB ?_ _).trans ?_;rotate_left)|refine(if_pos ?_).trans ?_|refine(Dl ?_ _ _).trans ?_);focus (first|rfl|(simp(disch:=first|assumption|omega|with_reducible rfl|(simp only[go_sem]<;>omega)|fail) only[↓reduceIte,↓AL,Nat.reduceAdd,go_sem,Bool.not_true,Bool.not_false,ls,ix,df,nn,sb6,tk,sb4,rj,MB,MC]<;>first|rfl|omega)|assumption|omega))|(refine(DF ?_ _ _).trans ?_;focus (first|(simp(disch:=first|assumption|omega|with_reducible rfl|(simp only[go_sem]<;>omega)|fail) only[↓reduceIte,↓AL,Nat.reduceAdd,go_sem,Bool.not_true,Bool.not_false,ls,ix,df,nn,sb6,tk,sb4,rj,MB,MC]<;>omega)|assumption|omega))|fail)
  all_goals refine(cf _ _).trans ?_
  all_goals (repeat' with_reducible first|refine(G8 _ _).trans ?_|refine(G9 _ _).trans ?_|refine(AL _ _).trans ?_|((first|(refine' (AB ?_ _).trans ?_;rotate_left)|refine(if_pos ?_).trans ?_|refine(Dl ?_ _ _).trans ?_);focus (first|rfl|(simp(disch:=first|assumption|omega|with_reducible rfl|(simp only[go_sem]<;>omega)|fail) only[↓reduceIte,↓AL,Nat.reduceAdd,go_sem,Bool.not_true,Bool.not_false,ap,nn,ad]<;>first|rfl|omega)|assumption|omega))|(refine(DF ?_ _ _).trans ?_;focus (first|(simp(disch:=first|assumption|omega|with_reducible rfl|(simp only[go_sem]<;>omega)|fail) only[↓reduceIte,↓AL,Nat.reduceAdd,go_sem,Bool.not_true,Bool.not_false,ap,nn,ad]<;>omega)|assumption|omega))|fail)
  all_goals rfl
end
end
section
open Go AM
def En (n N:Nat):Nat→Nat
 |0=>0
 |w+1=>En n N w+(ofL n N w).length
theorem Oq (n N:Nat):∀w,En (n+1) N w=En n N w+if ownN n N<w then 1 else 0
 |0=>by simp[En]
 |w+1=>by
  rw[En,En,Oq n N w,MS]
  by_cases h:ownN n N=w
  ·rw[if_pos h,if_neg (by omega),if_pos (by omega)]
   simp only[List.length_append,List.length_cons,List.length_nil];omega
  ·rw[if_neg h]
   by_cases h2:ownN n N<w
   ·rw[if_pos h2,if_pos (by omega)];omega
   ·rw[if_neg h2,if_neg (by omega)];omega
theorem Zj (N:Nat):∀w,En 0 N w=0
 |0=>rfl
 |w+1=>by rw[En,Zj N w];simp[ofL]
theorem ABs (v:Nat) {N:Nat} (hN:1≤N):ownN v N<N:=by
 unfold ownN;exact Nat.mod_lt _ hN
theorem Sz {N:Nat} (hN:1≤N):∀n,En n N N=n
 |0=>Zj N N
 |n+1=>by rw[Oq,Sz hN n,if_pos (ABs n hN)]
section
variable {a b c:V}
theorem ABt {g:Grf} (hl:g.es.length<1000000) {j:Job} (hj:Hf g j=true) {N w:Nat} (h1:1≤N) (hN:N≤64) (hw:w<N) (ha:Au 5 [a,b,c]=true):∃f':Fl,(f'= .own∨f'= .nil)∧
 Cl 29 [vG .sh g,vJ j,.int .i64 (N:Int),.int .i64 (w:Int)] [a,b,c]=some (.tup [.ref 5 [] 114,.int .i64 0],[a,b,c,vG .sh g,vJ j,Ui g j N w f' (BL g j N w)]):=by
 have hg':=QI hj
 have hlen:=Gf g.n.toNat N w
 obtain⟨f',hf',lp⟩:=ABr (g:=g) (j:=j) (N:=N) (w:=w) ha (L:=ofL g.n.toNat N w) (fun v hv=>by have:=Ue hv;omega) (by omega) (ofL g.n.toNat N w).length 0 .nil [] (by omega) rfl (Or.inr rfl)
 refine⟨f',hf',?_⟩
 rw[List.drop_zero,List.nil_append]at lp
 have hc:=Oo hl j
 rw[if_pos hj]at hc
 have hof:=Zb (n:=g.n.toNat) (N:=N) (w:=w) (by omega) (by omega) (by omega) hN hw
 rw[show(g.n.toNat:Int)=g.n by omega]at hof
 have ce:=XQ (l:=g.es) (by omega)
 rw[show BL g j N w=(ofL g.n.toNat N w).map (fun(v:Nat)=>firstX j (v:Int))from rfl,←lp,ADR]
 have lL:FC (Uf .sh (ofL g.n.toNat N w))=some (.int .i64 ((ofL g.n.toNat N w).length:Int)):=by show some _=_;rw[List.length_map]
 clear lp hlen
 generalize ofL g.n.toNat N w=L at*
 simp(disch:=first|assumption|omega|(with_reducible rfl)|(simp only[go_sem];done)|(simp only[go_sem];omega)|fail) only[↓reduceIte,↓AL,Nat.reduceAdd,go_sem,hc,hof,ce,lL]
 rfl
theorem Zk {g:Grf} {j:Job} {N w:Nat} {xs:List Vtx} (hx:∀x∈xs,VOk x) (hn:xs.length≤1000000) {f:Fl} (hf:f= .own∨f= .nil) (y0 y1 y2 y3 y4:V):
 Cl 30 [.ref 5 [] 114] [y0,y1,y2,y3,y4,Ui g j N w f xs]=some (Aw (vrootB xs),[y0,y1,y2,y3,y4,Ui g j N w f xs]):=by
 have hR:=Si hx hn .sh
 have rv:∀h,AA h [.lst 81 f.wk (xs.map Dc)]=[.lst 81 .sh (xs.map Dc)]:=fun h=>by rcases hf with rfl|rfl<;>rfl
 have l3:=Gg xs
 have nn:Bz (.ref 5 [] 114)=some (.ref 5 [] 114):=rfl
 rw[ADS,ABk]
 generalize vrootB xs=r at*
 rcases hf with rfl|rfl
 all_goals simp only[MB,MC]at rv
 all_goals simp(disch:=first|assumption|omega|(with_reducible rfl)|(simp only[go_sem];done)|(simp only[go_sem];omega)|fail) only[↓reduceIte,↓AL,Nat.reduceAdd,go_sem,hR,rv,nn]
theorem Xb {g:Grf} {j:Job} {N w:Nat} {xs:List Vtx} (hn:xs.length≤1000000) {f:Fl} (hf:f= .own∨f= .nil) (y0 y1 y2 y3 y4:V):
 Cl 31 [.ref 5 [] 114] [y0,y1,y2,y3,y4,Ui g j N w f xs]=some (.lst 81 .sh (xs.map Dc),[y0,y1,y2,y3,y4,Ui g j N w f xs]):=by
 have hR:=XR hn
 have rv:∀h,AA h [.lst 81 f.wk (xs.map Dc)]=[.lst 81 .sh (xs.map Dc)]:=fun h=>by rcases hf with rfl|rfl<;>rfl
 have nn:Bz (.ref 5 [] 114)=some (.ref 5 [] 114):=rfl
 rw[ADT]
 rcases hf with rfl|rfl
 all_goals simp only[MB,MC]at rv
 all_goals simp(disch:=first|assumption|omega|(with_reducible rfl)|(simp only[go_sem];done)|(simp only[go_sem];omega)|fail) only[↓reduceIte,↓AL,Nat.reduceAdd,go_sem,hR,rv,nn]
end
end
section
open Go AM
end
section
open Go AM
def WM (f:FuncId) (arg bx ix:V) (sT:TypeId) (n:Nat) (tS tE:TypeId) (v:Bool) (h:List V) (k:List V→Rv):Rv:=
 if(CZ.pure f&& !CZ.ext f&&decide ((CZ.seq f).1=0))=true then
  (Cl f (AA h [arg]) []).bind fun r=>
   match r.1,bx,ix with
   | .lst e .own xs,.ref id p t',.int _ j=>(AM.boolsOf xs).bind fun bs=>(Dh P sT n (.ref id p t')).bind fun a=>
     if(decide (0≤j)&&Nat.blt j.toNat bs.length&&BK P tE (.bool v))=true then
      (Hz P h tS a (.lst e .own ((bs.set j.toNat v).map .bool))).bind fun h'=>k h'
     else none
   |_,_,_=>none
 else none
theorem AEW (t0 t1 t2 t3:V) (h:List V):Cl 57 [t0,t1,t2,t3] h=
 if((BA 23) (V.weak t0)&&V.under (List.length h) (V.weak t0))=true then if((BA 25) t1&&V.under (List.length (h++[(V.weak t0)])) t1)=true then if((BA 32) (V.weak t2)&&V.under (List.length ((h++[(V.weak t0)])++[t1])) (V.weak t2))=true then(Cl 55 (AU [t3]) ((((h++[(V.weak t0)])++[t1])++[(V.weak t2)])++[(V.agg 32 [(V.int .i64 0),(V.lst 4 .nil []),(V.lst 55 .nil []),(V.lst 58 .nil []),(V.lst 108 .nil [])])])).bind fun r_1=>jn (fun t32_2 h_3=>
 V.ite t32_2
  (((ck [] [(V.int .i64 0),(V.lst 4 .nil []),(V.lst 55 .nil []),(V.lst 58 .nil []),(V.lst 108 .nil [])]).map (.agg 32)).bind fun t33_4=>(DC (BA 32) 33 h_3 (V.ref (List.length (((h++[(V.weak t0)])++[t1])++[(V.weak t2)])) [] 33) t33_4).bind fun h_5=>(A7 h_5 33 (V.ref (List.length (((h++[(V.weak t0)])++[t1])++[(V.weak t2)])) [] 33)).bind fun c_6=>if(List.all [(V.bool false),c_6] V.okE)=true then AV (List.length h) h_5 (V.tup [c_6,(V.bool false)])else none)
  ((A7 h_3 24 (V.ref (List.length h) [] 24)).bind fun t35_7=>(AZ h_3 26 (V.ref (List.length (h++[(V.weak t0)])) [] 26)).bind fun t36_8=>(fA 33 28 1 (V.ref (List.length ((h++[(V.weak t0)])++[t1])) [] 33)).bind fun t37_9=>(A7 h_3 28 t37_9).bind fun t38_10=>(FC t38_10).bind fun t39_11=>(Cl 10 (AA h_3 [t35_7,t36_8,t39_11]) []).bind fun r_12=>(FB r_12.1 0).bind fun t41_13=>(ext r_12.1 1).bind fun t42_14=>(DC (BA 32) 33 (h_3++[(V.agg 32 [(V.int .i64 0),(V.lst 4 .nil []),(V.lst 55 .nil []),(V.lst 58 .nil []),(V.lst 108 .nil [])])]) (V.ref (List.length h_3) [] 33) t41_13).bind fun h_15=>(fA 33 28 1 (V.ref (List.length ((h++[(V.weak t0)])++[t1])) [] 33)).bind fun t43_16=>(A7 h_15 28 t43_16).bind fun t44_17=>WM 80 t44_17 (V.ref (List.length h_3) [] 33) r_1.1 33 1 28 4 true h_15 fun h_24=>(A7 h_24 33 (V.ref (List.length h_3) [] 33)).bind fun t51_25=>(DC (BA 32) 33 h_24 (V.ref (List.length (((h++[(V.weak t0)])++[t1])++[(V.weak t2)])) [] 33) t51_25).bind fun h_26=>(A7 h_26 33 (V.ref (List.length (((h++[(V.weak t0)])++[t1])++[(V.weak t2)])) [] 33)).bind fun c_27=>if(List.all [(V.bool true),c_27] V.okE)=true then AV (List.length h) h_26 (V.tup [c_27,(V.bool true)])else none)) (fun(k_28:V→List V→Rv)=>(Cl 86 (AU [t3]) r_1.2).bind fun r_29=>(AO .neq r_29.1 (V.int .i64 0)).bind fun t17_30=>V.ite t17_30 (k_28 (V.bool true) r_29.2) ((fA 33 28 1 (V.ref (List.length ((h++[(V.weak t0)])++[t1])) [] 33)).bind fun t20_31=>(A7 r_29.2 28 t20_31).bind fun t21_32=>(FC t21_32).bind fun t22_33=>(UK .u64 t22_33).bind fun t23_34=>(AO .geq r_1.1 t23_34).bind fun t24_35=>V.ite t24_35 (k_28 (V.bool true) r_29.2) ((fA 33 28 1 (V.ref (List.length ((h++[(V.weak t0)])++[t1])) [] 33)).bind fun t27_36=>(A7 r_29.2 28 t27_36).bind fun t28_37=>(E8 4 t28_37 r_1.1).bind fun t30_38=>(AZ r_29.2 4 t30_38).bind fun t31_39=>k_28 t31_39 r_29.2)))else none else none else none:=
  ACh (by kernel_rfl)
end
section
open Go AM
abbrev AIg:V:= .agg 54 (List.replicate 32 (.int .u8 0))
abbrev WN:V:= .agg 59 [.int .i64 0,.int .i64 0,.agg 56 [.int .i64 0,.int .i64 0,AIg,.lst 55 .nil []],.lst 108 .nil [],.lst 9 .nil []]
def MW:List UInt8:=[65,0]++(List.replicate 32 0++[0])++(List.replicate 32 0++[0])++[1,0]
theorem AIh (r0 r1:List UInt8) (k0 k1:List (List UInt8)):Cl 20 [vB ⟨0,[false,false],[r0,r1],[k0,k1],[]⟩,.int .i64 1] []=some (.tup [.str [69,1],.int .i64 0],[]):=CO.2 ⟨60,by kernel_rfl⟩
theorem AIi (r0 r1:List UInt8) (k0 k1:List (List UInt8)):Cl 17 [vB ⟨0,[false,false],[r0,r1],[k0,k1],[]⟩,.lst 60 .sh [WN,WN]] []=some (.tup [.str MW,.int .i64 0],[]):=CO.2 ⟨60,by kernel_rfl⟩
def j0:Job:=⟨[109,97,120],0,2⟩
def g0:Grf:=⟨2,[]⟩
def Cm (g1:Bool) (r0 r1:List UInt8) (k0 k1:List (List UInt8)):Bk:=⟨0,[false,g1],[r0,r1],[k0,k1],[]⟩
def bk1 (g1:Bool):Bk:=⟨1,[false,g1],[List.replicate 32 0,List.replicate 32 0],[[],[]],[]⟩
abbrev UB:V:=Nu .nil .nil .nil .nil zB
theorem AIj (g1:Bool) (r0 r1 p0 p1:List UInt8) (k0 k1 q0 q1:List (List UInt8)):Cl 56 [vJ j0,vB (Cm g1 r0 r1 k0 k1),XE 5] [vG .sh g0,vJ j0,vB (Cm g1 r0 r1 k0 k1),UB,vB (Cm false p0 p1 q0 q1),Lp MW.tail 0,UB]=some (.tup [vB (bk1 g1),.bool true],[vG .sh g0,vJ j0,vB (Cm g1 r0 r1 k0 k1),UB,vB (Cm false p0 p1 q0 q1),Lp [] 0,UB]):=CO.2 ⟨60,by kernel_rfl⟩
theorem AIk (a b:Bool):Cl 80 [.lst 4 .sh [.bool a,.bool b]] []=some (.lst 4 .own [.bool a,.bool b],[]):=CO.2 ⟨60,by kernel_rfl⟩
theorem AGd:Hg g0 j0 2=true:=by decide+kernel
theorem nb0:∃p0 p1 q0 q1,Cc g0 j0 2=Cm false p0 p1 q0 q1:=⟨vrootB (BL g0 j0 2 0),vrootB (BL g0 j0 2 1),(BL g0 j0 2 0).map vtxB,(BL g0 j0 2 1).map vtxB,by simp[Cc,Cm,List.range_succ,List.replicate]⟩
theorem AIl (h0 h1 h2 h3 h4 h5 h6 h7 h8 h9 h10 x0 x2 x3 x4:V) (k:List V→Rv):
 WM 80 (.lst 4 .sh [.bool false,.bool false]) (.ref 11 [] 33) (.int .u64 1) 33 1 28 4 true [h0,h1,h2,h3,h4,h5,h6,h7,h8,h9,h10,.agg tBk [x0,.lst 4 .sh [.bool false,.bool false],x2,x3,x4]] k=
  k [h0,h1,h2,h3,h4,h5,h6,h7,h8,h9,h10,.agg tBk [x0,.lst 4 .own [.bool false,.bool true],x2,x3,x4]]:=by
 unfold WM
 rw[if_pos (by kernel_rfl),show AA _ [V.lst 4 .sh [.bool false,.bool false]]=[V.lst 4 .sh [.bool false,.bool false]]from rfl,AIk]
 rfl
end
section
open Go AM
abbrev MX:V:= .agg tBk [.int .i64 0,.lst 4 .nil [],.lst 55 .nil [],.lst 58 .nil [],.lst 108 .nil []]
theorem AGe (h0 h1 h2 h3 h4 h5 h6 h7 h8 h9 h10 x0 x2 x3 x4:V) (k:List V→Rv):
 WM 80 (.lst 4 .sh ([false,false].map V.bool)) (.ref 11 [] 33) (.int .u64 1) 33 1 28 4 true [h0,h1,h2,h3,h4,h5,h6,h7,h8,h9,h10,.agg tBk [x0,.lst 4 .sh ([false,false].map V.bool),x2,x3,x4]] k=
  k [h0,h1,h2,h3,h4,h5,h6,h7,h8,h9,h10,.agg tBk [x0,.lst 4 .own ([false,true].map V.bool),x2,x3,x4]]:=AIl ..
theorem AIm (r0 r1 p0 p1:List UInt8) (k0 k1 q0 q1:List (List UInt8)) (hN:Cl 10 [vG .sh g0,vJ j0,.int .i64 2] []=some (.tup [vB (Cm false p0 p1 q0 q1),.int .i64 0],[])):
 Cl 57 [vG .sh g0,vJ j0,vB (Cm false r0 r1 k0 k1),XE 5] [vG .sh g0,vJ j0,vB (Cm false r0 r1 k0 k1),UB,vB (Cm false p0 p1 q0 q1),Lp [1] 0,UB]=
  some (.tup [vB (Cm true p0 p1 q0 q1),.bool true],[vG .sh g0,vJ j0,vB (Cm false r0 r1 k0 k1),UB,vB (Cm false p0 p1 q0 q1),Lp [] 0,UB]):=by
 have n55:Cl 55 [XE 5] [vG .sh g0,vJ j0,vB (Cm false r0 r1 k0 k1),UB,vB (Cm false p0 p1 q0 q1),Lp [1] 0,UB,vG .sh g0,vJ j0,vB (Cm false r0 r1 k0 k1),MX]=some (.int .u64 1,[vG .sh g0,vJ j0,vB (Cm false r0 r1 k0 k1),UB,vB (Cm false p0 p1 q0 q1),Lp [] 0,UB,vG .sh g0,vJ j0,vB (Cm false r0 r1 k0 k1),MX]):=CO.2 ⟨60,by kernel_rfl⟩
 have n86:Cl 86 [XE 5] [vG .sh g0,vJ j0,vB (Cm false r0 r1 k0 k1),UB,vB (Cm false p0 p1 q0 q1),Lp [] 0,UB,vG .sh g0,vJ j0,vB (Cm false r0 r1 k0 k1),MX]=some (.int .i64 0,[vG .sh g0,vJ j0,vB (Cm false r0 r1 k0 k1),UB,vB (Cm false p0 p1 q0 q1),Lp [] 0,UB,vG .sh g0,vJ j0,vB (Cm false r0 r1 k0 k1),MX]):=CO.2 ⟨60,by kernel_rfl⟩
 rw[AEW]
 simp only[Cm,List.map_cons,List.map_nil,zB]at n55 n86 hN⊢
 have hN':Cl 10 [vG .sh g0,vJ j0,.int .i64 ((2:Nat):Int)] []=_:=hN
 have hx:([false,false].map V.bool)[1]?=some (.bool false):=rfl
 simp(disch:=first|assumption|omega|(with_reducible rfl)|(simp only[go_sem];done)|(simp only[go_sem];omega)|fail) only[↓reduceIte,↓AL,Nat.reduceAdd,go_sem,n55,n86,hN',hx]
 refine(AGe _ _ _ _ _ _ _ _ _ _ _ _ _ _ _ _).trans ?_
 rfl
end
section
open Go AM
theorem AC2 (r0 r1 p0 p1:List UInt8) (k0 k1 q0 q1:List (List UInt8)) (hN:Cl 10 [vG .sh g0,vJ j0,.int .i64 2] []=some (.tup [vB (Cm false p0 p1 q0 q1),.int .i64 0],[])):
 Cl 23 [vG .sh g0,vJ j0,vB (Cm false r0 r1 k0 k1),.str [69,1]] []=some (.tup [vB (Cm true p0 p1 q0 q1),.int .i64 0],[]):=by
 have n54:=Lr [vG .sh g0,vJ j0,vB (Cm false r0 r1 k0 k1),MX,vB (Cm false p0 p1 q0 q1)] [69,1]
 have n55:Cl 55 [XE 5] [vG .sh g0,vJ j0,vB (Cm false r0 r1 k0 k1),MX,vB (Cm false p0 p1 q0 q1),Lp [69,1] 0,MX]=some (.int .u64 69,[vG .sh g0,vJ j0,vB (Cm false r0 r1 k0 k1),MX,vB (Cm false p0 p1 q0 q1),Lp [1] 0,MX]):=CO.2 ⟨60,by kernel_rfl⟩
 have n57:Cl 57 [vG .sh g0,vJ j0,vB (Cm false r0 r1 k0 k1),XE 5] [vG .sh g0,vJ j0,vB (Cm false r0 r1 k0 k1),MX,vB (Cm false p0 p1 q0 q1),Lp [1] 0,MX]=_:=AIm r0 r1 p0 p1 k0 k1 q0 q1 hN
 rw[UL]
 simp only[Cm,zB]at n54 n55 n57 hN⊢
 have hN':Cl 10 [vG .sh g0,vJ j0,.int .i64 ((2:Nat):Int)] []=_:=hN
 simp(disch:=first|assumption|omega|(with_reducible rfl)|(simp only[go_sem];done)|(simp only[go_sem];omega)|fail) only[↓reduceIte,↓AL,Nat.reduceAdd,go_sem,n54,n55,n57,hN']
end
section
open Go AM
theorem AC3 (g1:Bool) (r0 r1 p0 p1:List UInt8) (k0 k1 q0 q1:List (List UInt8)) (hN:Cl 10 [vG .sh g0,vJ j0,.int .i64 2] []=some (.tup [vB (Cm false p0 p1 q0 q1),.int .i64 0],[])):
 Cl 23 [vG .sh g0,vJ j0,vB (Cm g1 r0 r1 k0 k1),.str MW] []=some (.tup [vB (bk1 g1),.int .i64 0],[]):=by
 have n54:=Lr [vG .sh g0,vJ j0,vB (Cm g1 r0 r1 k0 k1),MX,vB (Cm false p0 p1 q0 q1)] MW
 have n55:Cl 55 [XE 5] [vG .sh g0,vJ j0,vB (Cm g1 r0 r1 k0 k1),MX,vB (Cm false p0 p1 q0 q1),Lp MW 0,MX]=some (.int .u64 65,[vG .sh g0,vJ j0,vB (Cm g1 r0 r1 k0 k1),MX,vB (Cm false p0 p1 q0 q1),Lp MW.tail 0,MX]):=CO.2 ⟨60,by kernel_rfl⟩
 have n56:Cl 56 [vJ j0,vB (Cm g1 r0 r1 k0 k1),XE 5] [vG .sh g0,vJ j0,vB (Cm g1 r0 r1 k0 k1),MX,vB (Cm false p0 p1 q0 q1),Lp MW.tail 0,MX]=_:=AIj g1 r0 r1 p0 p1 k0 k1 q0 q1
 rw[UL]
 generalize MW=acc at*
 generalize bk1 g1=b1 at*
 simp only[Cm,zB]at n54 n55 n56 hN⊢
 have hN':Cl 10 [vG .sh g0,vJ j0,.int .i64 ((2:Nat):Int)] []=_:=hN
 simp(disch:=first|assumption|omega|(with_reducible rfl)|(simp only[go_sem];done)|(simp only[go_sem];omega)|fail) only[↓reduceIte,↓AL,Nat.reduceAdd,go_sem,n54,n55,n56,hN']
theorem AGf (p0 p1:List UInt8) (q0 q1:List (List UInt8)) (hN:Cl 10 [vG .sh g0,vJ j0,.int .i64 2] []=some (.tup [vB (Cm false p0 p1 q0 q1),.int .i64 0],[])):
 Cl 23 [vG .sh g0,vJ j0,vB (bk1 true),.str [120]] []=some (.tup [vB zB,.int .i64 171],[]):=by
 have n54:=Lr [vG .sh g0,vJ j0,vB (bk1 true),MX,vB (Cm false p0 p1 q0 q1)] [120]
 have n55:Cl 55 [XE 5] [vG .sh g0,vJ j0,vB (bk1 true),MX,vB (Cm false p0 p1 q0 q1),Lp [120] 0,MX]=some (.int .u64 120,[vG .sh g0,vJ j0,vB (bk1 true),MX,vB (Cm false p0 p1 q0 q1),Lp [] 0,MX]):=CO.2 ⟨60,by kernel_rfl⟩
 rw[UL]
 generalize List.replicate 32 (0:UInt8)=z32 at*
 simp only[Cm,bk1,zB]at n54 n55 hN⊢
 have hN':Cl 10 [vG .sh g0,vJ j0,.int .i64 ((2:Nat):Int)] []=_:=hN
 simp(disch:=first|assumption|omega|(with_reducible rfl)|(simp only[go_sem];done)|(simp only[go_sem];omega)|fail) only[↓reduceIte,↓AL,Nat.reduceAdd,go_sem,n54,n55,hN']
 rfl
end
section
open Go AM
theorem AGg (p0 p1:List UInt8) (q0 q1:List (List UInt8)) (hN:Cl 10 [vG .sh g0,vJ j0,.int .i64 2] []=some (.tup [vB (Cm false p0 p1 q0 q1),.int .i64 0],[])):
 Cl 28 [vG .sh g0,vJ j0,.int .i64 2,.lst 9 .sh [.str [69,1],.str MW,.str [120]]] []=some (.tup [vB (bk1 true),.int .i64 2,.int .i64 0],[]):=by
 have a1:=AC2 p0 p1 p0 p1 q0 q1 q0 q1 hN
 have a2:=AC3 true p0 p1 p0 p1 q0 q1 q0 q1 hN
 have a3:=AGf p0 p1 q0 q1 hN
 rw[ADQ]
 generalize MW=acc at*
 generalize bk1 true=b3 at*
 generalize Cm true p0 p1 q0 q1=b2 at*
 generalize Cm false p0 p1 q0 q1=b1 at*
 have ix1:∀a b c:V,E8 9 (.lst 9 .sh [a,b,c]) (.int .i64 (0+1))=some (.rop 9 b):=fun _ _ _=>rfl
 have ix2:∀a b c:V,E8 9 (.lst 9 .sh [a,b,c]) (.int .i64 (0+1+1))=some (.rop 9 c):=fun _ _ _=>rfl
 simp(disch:=first|assumption|omega|(with_reducible rfl)|(simp only[go_sem];done)|(simp only[go_sem];omega)|fail) only[↓reduceIte,↓AL,Nat.reduceAdd,go_sem,hN]
 rw[JD]
 simp(disch:=first|assumption|omega|(with_reducible rfl)|(simp only[go_sem];done)|(simp only[go_sem];omega)|fail) only[↓reduceIte,↓AL,Nat.reduceAdd,go_sem,a1]
 rw[JD]
 simp(disch:=first|assumption|omega|(with_reducible rfl)|(simp only[go_sem];done)|(simp only[go_sem];omega)|fail) only[↓reduceIte,↓AL,Nat.reduceAdd,go_sem,a2,ix1]
 rw[JD]
 simp(disch:=first|assumption|omega|(with_reducible rfl)|(simp only[go_sem];done)|(simp only[go_sem];omega)|fail) only[↓reduceIte,↓AL,Nat.reduceAdd,go_sem,a3,ix2]
 rfl
end
section
open Go AM
set_option maxHeartbeats 4000000 in
theorem ABu:Cl 9 [] []=some (.bool true,[]):=by
 obtain⟨p0,p1,q0,q1,hnb⟩:=nb0
 have hN:Cl 10 [vG .sh g0,vJ j0,.int .i64 2] []=some (.tup [vB (Cm false p0 p1 q0 q1),.int .i64 0],[]):=by
  have h:=Zi (g:=g0) (by simp[g0]) j0 2
  rw[if_pos AGd]at h
  rw[h,←hnb];rfl
 have e1:Cl 20 [vB (Cm false p0 p1 q0 q1),.int .i64 1] []=_:=AIh p0 p1 q0 q1
 have e2:Cl 17 [vB (Cm false p0 p1 q0 q1),.lst 60 .sh [WN,WN]] []=_:=AIi p0 p1 q0 q1
 have a1:=AC2 p0 p1 p0 p1 q0 q1 q0 q1 hN
 have a2:=AC3 false p0 p1 p0 p1 q0 q1 q0 q1 hN
 have rc:=AGg p0 p1 q0 q1 hN
 have mk:mkL 60 WN (.int .i64 2) (.int .i64 2)=some (.lst 60 .own [WN,WN]):=rfl
 rw[AFJ]
 rw[show mkL 60 _ (.int .i64 2) (.int .i64 2)=some (.lst 60 .own [WN,WN])from mk]
 have ry:∀h,V.reify h (.lst 60 .own [WN,WN])= .lst 60 .sh [WN,WN]:=fun _=>rfl
 generalize MW=acc at*
 generalize WN=z at*
 simp only[vG,vJ,g0,j0,List.map_nil]at hN a1 a2 rc
 have d1:((Cm false p0 p1 q0 q1).gone.length:Int)=2:=rfl
 have d2:(Cm true p0 p1 q0 q1).step=0:=rfl
 have d3:(bk1 false).step=1:=rfl
 have d4:(bk1 true).step=1:=rfl
 have x1:E8 4 (.lst 4 .sh ((Cm true p0 p1 q0 q1).gone.map V.bool)) (.int .i64 1)=some (.rop 4 (.bool true)):=rfl
 have x2:E8 4 (.lst 4 .sh ((Cm true p0 p1 q0 q1).gone.map V.bool)) (.int .i64 0)=some (.rop 4 (.bool false)):=rfl
 have x3:E8 4 (.lst 4 .sh ((bk1 true).gone.map V.bool)) (.int .i64 1)=some (.rop 4 (.bool true)):=rfl
 (repeat' with_reducible first|refine(G8 _ _).trans ?_|refine(G9 _ _).trans ?_|refine(AL _ _).trans ?_|((first|(refine' (AB ?_ _).trans ?_;rotate_left)|refine(if_pos ?_).trans ?_|refine(Dl ?_ _ _).trans ?_);focus (first|rfl|(simp(disch:=first|assumption|omega|with_reducible rfl|(simp only[go_sem]<;>omega)|fail) only[↓reduceIte,↓AL,Nat.reduceAdd,go_sem,Bool.not_true,Bool.not_false,hN,e1,e2,a1,a2,rc,mk,ry,x1,x2,x3]<;>first|rfl|omega)|assumption|omega))|(refine(DF ?_ _ _).trans ?_;focus (first|(simp(disch:=first|assumption|omega|with_reducible rfl|(simp only[go_sem]<;>omega)|fail) only[↓reduceIte,↓AL,Nat.reduceAdd,go_sem,Bool.not_true,Bool.not_false,hN,e1,e2,a1,a2,rc,mk,ry,x1,x2,x3]<;>omega)|assumption|omega))|fail)
 rfl
end
section
open Go AM
theorem atF {e:TypeId} {f:Fl} {xs:List V} {i:Nat} {x:V} (h:xs[i]?=some x):E8 e (.lst e f xs) (.int .i64 (i:Int))=some (.rop e x):=by
 rw[MI,h];rfl
set_option maxHeartbeats 2000000 in
theorem Zl {g:Grf} (hl:g.es.length<1000000) {j:Job} (hj:Hf g j=true) {N:Nat} (h1:1≤N) (hN:N≤64):∀(m w:Nat),w+m=N→
 VJ (.int .i64 (N:Int)) (.ref 0 [] 24) (.ref 1 [] 26) (.ref 2 [] 33) (.int .i64 (En g.n.toNat N w:Int)) (.int .i64 (w:Int)) [vG .sh g,vJ j,vB (Cc g j N)]=some (.bool true,[]):=by
 have hg':=QI hj
 intro m
 induction m with
 |zero=>
  intro w hw
  obtain rfl:w=N:=by omega
  have ls:AO .lss (.int .i64 (w:Int)) (.int .i64 (w:Int))=some (.bool false):=by rw[b_lss,decide_eq_false (by omega)]
  have eq:AO .eql (.int .i64 (En g.n.toNat w w:Int)) (.int .i64 g.n)=some (.bool true):=by
   rw[Sz h1,b_eql,decide_eq_true (by omega)]
  rw[Qn]
  generalize (En g.n.toNat w w:Int)=n at*
  simp(disch:=first|assumption|omega|(with_reducible rfl)|(simp only[go_sem];done)|(simp only[go_sem];omega)|fail) only[↓reduceIte,↓AL,Nat.reduceAdd,go_sem,ls,eq]
 |succ m ih=>
  intro w hw
  have h:w<N:=by omega
  have ls:AO .lss (.int .i64 (w:Int)) (.int .i64 (N:Int))=some (.bool true):=by rw[b_lss,decide_eq_true (by omega)]
  have ow:=Sr hl
  have pb:(vB (Cc g j N)).pl=true:=by simp only[V.pl,HY,XY,XZ,AEU,Zd];rfl
  have pg:(vG .sh g).pl=true:=by simp only[go_sem]
  have ha:Au 5 [vG .sh g,vJ j,vB (Cc g j N)]=true:=by simp only[Au,(V.PF _ pg).away,(V.PF _ pb).away];rfl
  obtain⟨f',hf',nw⟩:=ABt (a:=vG .sh g) (b:=vJ j) (c:=vB (Cc g j N)) hl hj h1 hN h ha
  have vok:=WL hg'.2 j N w
  have vln:=Sj g j N w
  have vlo:(BL g j N w).length=(ofL g.n.toNat N w).length:=by rw[BL,List.length_map]
  have rt:=Zk (g:=g) (j:=j) (N:=N) (w:=w) vok (by omega) hf' (vG .sh g) (vJ j) void (vG .sh g) (vJ j)
  have vt:=Xb (g:=g) (j:=j) (N:=N) (w:=w) (xs:=BL g j N w) (by omega) hf' (vG .sh g) (vJ j) void (vG .sh g) (vJ j)
  have awW:V.away 2 (Ui g j N w f' (BL g j N w))=true:=by
   rcases hf' with rfl|rfl<;>(simp only[V.away,Au,(V.PF _ pg).away,(V.PFL _ (KL _)).away,(V.PFL _ (QA g.es)).away];rfl)
  have aw:Au 2 [vG .sh g,vJ j,void,vG .sh g,vJ j,Ui g j N w f' (BL g j N w)]=true:=by
   simp only[Au,(V.PF _ pg).away,awW];rfl
  have cR:∀(k:V→List V→Rv),BO P CZ W (some (.ref 2 [] 33)) (.clo 30 []) [.ref 5 [] 114] [vG .sh g,vJ j,vB (Cc g j N),vG .sh g,vJ j,Ui g j N w f' (BL g j N w)] k=k (Aw (vrootB (BL g j N w))) [vG .sh g,vJ j,vB (Cc g j N),vG .sh g,vJ j,Ui g j N w f' (BL g j N w)]:=fun k=>
   (Sv (h:=[vG .sh g,vJ j,vB (Cc g j N),vG .sh g,vJ j,Ui g j N w f' (BL g j N w)]) (v:=vB (Cc g j N)) (cs:=[]) (by kernel_rfl) (by kernel_rfl) (id:=2) rfl aw rfl rfl ((V.PF _ (ML _)).away 2) aw (by simp) rt k).trans rfl
  have cV:∀(k:V→List V→Rv),BO P CZ W (some (.ref 2 [] 33)) (.clo 31 []) [.ref 5 [] 114] [vG .sh g,vJ j,vB (Cc g j N),vG .sh g,vJ j,Ui g j N w f' (BL g j N w)] k=k (.lst 81 .sh ((BL g j N w).map Dc)) [vG .sh g,vJ j,vB (Cc g j N),vG .sh g,vJ j,Ui g j N w f' (BL g j N w)]:=fun k=>
   (Sv (h:=[vG .sh g,vJ j,vB (Cc g j N),vG .sh g,vJ j,Ui g j N w f' (BL g j N w)]) (v:=vB (Cc g j N)) (cs:=[]) (by kernel_rfl) (by kernel_rfl) (id:=2) rfl aw rfl rfl (by simp only[V.away,(V.PFL _ (KL _)).away]) aw (by simp) vt k).trans rfl
  have xR:E8 55 (.lst 55 .sh ((Cc g j N).roots.map Aw)) (.int .i64 (w:Int))=some (.rop 55 (Aw (vrootB (BL g j N w)))):=atF (by simp[Cc,h])
  have xG:E8 4 (.lst 4 .sh ((Cc g j N).gone.map V.bool)) (.int .i64 (w:Int))=some (.rop 4 (.bool false)):=atF (by simp[Cc,h])
  have xK:E8 58 (.lst 58 .sh ((Cc g j N).known.map sS)) (.int .i64 (w:Int))=some (.rop 58 (sS ((BL g j N w).map vtxB))):=atF (by simp[Cc,h])
  have ne:YL (BA 54) .neq (Aw (vrootB (BL g j N w))) (Aw (vrootB (BL g j N w)))=some (.bool false):=by rw[neA (Gg _) (Gg _)];simp
  have lV:FC (.lst 81 .sh ((BL g j N w).map Dc))=some (.int .i64 ((BL g j N w).length:Int)):=by show some _=_;rw[List.length_map]
  have lK:FC (sS ((BL g j N w).map vtxB))=some (.int .i64 ((BL g j N w).length:Int)):=by show some _=_;rw[List.length_map,List.length_map]
  have nq:AO .neq (.int .i64 ((BL g j N w).length:Int)) (.int .i64 ((BL g j N w).length:Int))=some (.bool false):=by rw[b_neq];simp
  have sl:∀w,En g.n.toNat N w≤64*w:=by
   intro w
   induction w with
   |zero=>simp[En]
   |succ w ih=>have:=Gf g.n.toNat N w;simp only[En];omega
  have slw:=sl w
  have a1:AO .add (.int .i64 (En g.n.toNat N w:Int)) (.int .i64 ((BL g j N w).length:Int))=some (.int .i64 (En g.n.toNat N (w+1):Int)):=by
   rw[FZ,En,←vlo,wrap_i64 (by omega) (by omega)];rfl
  have ad:AO .add (.int .i64 (w:Int)) (.int .i64 1)=some (.int .i64 ((w+1:Nat):Int)):=by rw[FZ,wrap_i64 (by omega) (by omega)];rfl
  have n0:AO .neq (.int .i64 0) (.int .i64 0)=some (.bool false):=rfl
  have en:YO .eql (.ref 5 [] 114)=some (.bool false):=rfl
  have nr:∀a b,AU [vG .sh g,vJ j,.int .i64 a,.int .i64 b]=[vG .sh g,vJ j,.int .i64 a,.int .i64 b]:=fun a b=>by simp only[AU,(V.PF _ pg).norm];rfl
  have sb:∀p t,Es (.ref 2 [] 33) (.ref 2 p t)=true:=fun _ _=>rfl
  have lwr:∀t x,Gu true [V.rop t x]=true→Gu true [V.rop t x]=true:=fun _ _ h=>h
  have lw1:∀x,Gu true [V.rop 55 (Aw x)]=true:=fun x=>by
   have:=(V.PF _ (ML x)).under 0
   simp only[Gu,cond_true,Ac,V.under,this,Bool.and_self]
  have lw2:∀x,Gu true [V.rop 58 (sS x)]=true:=fun _=>rfl
  have un:∀x y,Ac 3 [.int .i64 (N:Int),.ref 0 [] 24,.ref 1 [] 26,.ref 2 [] 33,.int .i64 x,.int .i64 y]=true:=fun _ _=>rfl
  rw[←ih (w+1) (by omega),Qn]
  clear ih sl slw vok vln vlo rt vt awW aw hg'
  generalize Cc g j N=nb at*
  generalize (En g.n.toNat N w:Int)=s0 at*
  generalize (En g.n.toNat N (w+1):Int)=s1 at*
  generalize (w+1:Nat)=w2 at*
  generalize BL g j N w=xs at*
  (repeat' with_reducible first|refine(G8 _ _).trans ?_|refine(G9 _ _).trans ?_|refine(AL _ _).trans ?_|((first|(refine' (AB ?_ _).trans ?_;rotate_left)|refine(if_pos ?_).trans ?_|refine(Dl ?_ _ _).trans ?_);focus (first|rfl|(simp(disch:=first|assumption|omega|with_reducible rfl|(simp only[go_sem]<;>omega)|fail) only[↓reduceIte,↓AL,Nat.reduceAdd,go_sem,Bool.not_true,Bool.not_false,ls,ow,nr,nw,n0,en]<;>first|rfl|omega)|assumption|omega))|(refine(DF ?_ _ _).trans ?_;focus (first|(simp(disch:=first|assumption|omega|with_reducible rfl|(simp only[go_sem]<;>omega)|fail) only[↓reduceIte,↓AL,Nat.reduceAdd,go_sem,Bool.not_true,Bool.not_false,ls,ow,nr,nw,n0,en]<;>omega)|assumption|omega))|fail)
  refine(cR _).trans ?_
  (repeat' with_reducible first|refine(G8 _ _).trans ?_|refine(G9 _ _).trans ?_|refine(AL _ _).trans ?_|((first|(refine' (AB ?_ _).trans ?_;rotate_left)|refine(if_pos ?_).trans ?_|refine(Dl ?_ _ _).trans ?_);focus (first|rfl|(simp(disch:=first|assumption|omega|with_reducible rfl|(simp only[go_sem]<;>omega)|fail) only[↓reduceIte,↓AL,Nat.reduceAdd,go_sem,Bool.not_true,Bool.not_false,sb,xR,lw1,ne,xG]<;>first|rfl|omega)|assumption|omega))|(refine(DF ?_ _ _).trans ?_;focus (first|(simp(disch:=first|assumption|omega|with_reducible rfl|(simp only[go_sem]<;>omega)|fail) only[↓reduceIte,↓AL,Nat.reduceAdd,go_sem,Bool.not_true,Bool.not_false,sb,xR,lw1,ne,xG]<;>omega)|assumption|omega))|fail)
  refine(cV _).trans ?_
  (repeat' with_reducible first|refine(G8 _ _).trans ?_|refine(G9 _ _).trans ?_|refine(AL _ _).trans ?_|((first|(refine' (AB ?_ _).trans ?_;rotate_left)|refine(if_pos ?_).trans ?_|refine(Dl ?_ _ _).trans ?_);focus (first|rfl|(simp(disch:=first|assumption|omega|with_reducible rfl|(simp only[go_sem]<;>omega)|fail) only[↓reduceIte,↓AL,Nat.reduceAdd,go_sem,Bool.not_true,Bool.not_false,lV,sb,xK,lw2,lK,nq,a1,ad,un]<;>first|rfl|omega)|assumption|omega))|(refine(DF ?_ _ _).trans ?_;focus (first|(simp(disch:=first|assumption|omega|with_reducible rfl|(simp only[go_sem]<;>omega)|fail) only[↓reduceIte,↓AL,Nat.reduceAdd,go_sem,Bool.not_true,Bool.not_false,lV,sb,xK,lw2,lK,nq,a1,ad,un]<;>omega)|assumption|omega))|fail)
  rfl
end
section
open Go AM
theorem lnF (t:TypeId) (f:Fl) {α:Type} (g:α→V) (l:List α):FC (.lst t f (l.map g))=some (.int .i64 (l.length:Int)):=by
 show some _=_;rw[List.length_map]
set_option maxHeartbeats 2000000 in
theorem QJ (g:Grf) (j:Job) (w:Int):Cl 8 [vG .sh g,vJ j,.int .i64 w] []=some (.bool true,[]):=by
 have hA:=ABu
 by_cases h1:40<g.es.length
 ·rw[VK]
  (repeat' with_reducible first|refine(G8 _ _).trans ?_|refine(G9 _ _).trans ?_|refine(AL _ _).trans ?_|((first|(refine' (AB ?_ _).trans ?_;rotate_left)|refine(if_pos ?_).trans ?_|refine(Dl ?_ _ _).trans ?_);focus (first|rfl|(simp(disch:=first|assumption|omega|with_reducible rfl|(simp only[go_sem]<;>omega)|fail) only[↓reduceIte,↓AL,Nat.reduceAdd,go_sem,Bool.not_true,Bool.not_false,hA]<;>first|rfl|omega)|assumption|omega))|(refine(DF ?_ _ _).trans ?_;focus (first|(simp(disch:=first|assumption|omega|with_reducible rfl|(simp only[go_sem]<;>omega)|fail) only[↓reduceIte,↓AL,Nat.reduceAdd,go_sem,Bool.not_true,Bool.not_false,hA]<;>omega)|assumption|omega))|fail)
  rfl
 by_cases h2:12<g.n
 ·rw[VK]
  (repeat' with_reducible first|refine(G8 _ _).trans ?_|refine(G9 _ _).trans ?_|refine(AL _ _).trans ?_|((first|(refine' (AB ?_ _).trans ?_;rotate_left)|refine(if_pos ?_).trans ?_|refine(Dl ?_ _ _).trans ?_);focus (first|rfl|(simp(disch:=first|assumption|omega|with_reducible rfl|(simp only[go_sem]<;>omega)|fail) only[↓reduceIte,↓AL,Nat.reduceAdd,go_sem,Bool.not_true,Bool.not_false,hA]<;>first|rfl|omega)|assumption|omega))|(refine(DF ?_ _ _).trans ?_;focus (first|(simp(disch:=first|assumption|omega|with_reducible rfl|(simp only[go_sem]<;>omega)|fail) only[↓reduceIte,↓AL,Nat.reduceAdd,go_sem,Bool.not_true,Bool.not_false,hA]<;>omega)|assumption|omega))|fail)
  rfl
 have hl:g.es.length<1000000:=by omega
 have rt:=XT hl j w
 have ow:=Sr hl
 have nw:=Zi hl j w
 have lw2:Gu true [vG .sh g]=true:=rfl
 have lw4:∀w,Gu true [vG .sh g,vJ j,.int .i64 w]=true:=fun _=>rfl
 by_cases hb:Hg g j w=true
 ·have hb':=hb
  simp only[Hg,Bool.and_eq_true,decide_eq_true_eq]at hb'
  obtain⟨hj,w1,w2⟩:=hb'
  obtain⟨N,rfl⟩:=Int.eq_ofNat_of_zero_le (show 0≤w by omega)
  rw[if_pos hb]at nw
  simp only[Int.toNat_natCast]at nw
  have lp:=Zl hl hj (N:=N) (by omega) (by omega) N 0 (by omega)
  rw[hb]at rt
  simp only[En]at lp
  have n0:AO .neq (.int .i64 0) (.int .i64 0)=some (.bool false):=rfl
  have nN:AO .neq (.int .i64 (N:Int)) (.int .i64 (N:Int))=some (.bool false):=by rw[b_neq];simp
  have lG:FC (.lst 4 .sh ((Cc g j N).gone.map V.bool))=some (.int .i64 (N:Int)):=by rw[lnF];simp[Cc]
  have lR:FC (.lst 55 .sh ((Cc g j N).roots.map Aw))=some (.int .i64 (N:Int)):=by rw[lnF];simp[Cc]
  have lK:FC (.lst 58 .sh ((Cc g j N).known.map sS))=some (.int .i64 (N:Int)):=by rw[lnF];simp[Cc]
  have lS:FC (.lst 108 .sh ((Cc g j N).sent.map Uh))=some (.int .i64 0):=rfl
  have st:(Cc g j N).step=0:=rfl
  have c0:((0:Nat):Int)=0:=rfl
  rw[c0]at lp
  generalize Cc g j N=b at*
  have n1:AO .neq (.int .i64 b.step) (.int .i64 0)=some (.bool false):=by rw[st];rfl
  rw[VK]
  (repeat' with_reducible first|refine(G8 _ _).trans ?_|refine(G9 _ _).trans ?_|refine(AL _ _).trans ?_|((first|(refine' (AB ?_ _).trans ?_;rotate_left)|refine(if_pos ?_).trans ?_|refine(Dl ?_ _ _).trans ?_);focus (first|rfl|(simp(disch:=first|assumption|omega|with_reducible rfl|(simp only[go_sem]<;>omega)|fail) only[↓reduceIte,↓AL,Nat.reduceAdd,go_sem,Bool.not_true,Bool.not_false,hA,ow,nw,rt,lw2,lw4,n0,nN,lG,lR,lK,lS,n1]<;>first|rfl|omega)|assumption|omega))|(refine(DF ?_ _ _).trans ?_;focus (first|(simp(disch:=first|assumption|omega|with_reducible rfl|(simp only[go_sem]<;>omega)|fail) only[↓reduceIte,↓AL,Nat.reduceAdd,go_sem,Bool.not_true,Bool.not_false,hA,ow,nw,rt,lw2,lw4,n0,nN,lG,lR,lK,lS,n1]<;>omega)|assumption|omega))|fail)
  exact lp
 ·rw[Bool.not_eq_true]at hb
  rw[hb]at rt
  rw[VK]
  (repeat' with_reducible first|refine(G8 _ _).trans ?_|refine(G9 _ _).trans ?_|refine(AL _ _).trans ?_|((first|(refine' (AB ?_ _).trans ?_;rotate_left)|refine(if_pos ?_).trans ?_|refine(Dl ?_ _ _).trans ?_);focus (first|rfl|(simp(disch:=first|assumption|omega|with_reducible rfl|(simp only[go_sem]<;>omega)|fail) only[↓reduceIte,↓AL,Nat.reduceAdd,go_sem,Bool.not_true,Bool.not_false,hA,rt,lw2,lw4]<;>first|rfl|omega)|assumption|omega))|(refine(DF ?_ _ _).trans ?_;focus (first|(simp(disch:=first|assumption|omega|with_reducible rfl|(simp only[go_sem]<;>omega)|fail) only[↓reduceIte,↓AL,Nat.reduceAdd,go_sem,Bool.not_true,Bool.not_false,hA,rt,lw2,lw4]<;>omega)|assumption|omega))|fail)
  rfl
end
end Go.Proofs.YtiegkempfolgcaaGreatDoor
