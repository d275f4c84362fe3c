/-
  Part of the proof of a statement about the given program: an abstract machine over its code, the simulation, its functions' equations, what they compute.
-/
import Derived.Test.YtphoocnlpnnkdaaGreatDoorMg10
import Derived.Test.YtphoocnlpnnkdaaGreatDoorMg11
import Derived.Test.YtphoocnlpnnkdaaGreatDoorMg5
import Derived.Test.YtphoocnlpnnkdaaGreatDoorMg9
set_option linter.unusedVariables false
set_option linter.unusedSimpArgs false
set_option linter.unusedSectionVars false
set_option maxRecDepth 100000
noncomputable section
namespace Go.Proofs.YtphoocnlpnnkdaaGreatDoor
section
open Go AM
instance:Inhabited Msg:=⟨⟨0,0,0⟩⟩
def rowM (d:Array Msg):V:= .row 103 (d.toList.map Ac)
def winM (id n:Nat):V:= .win id [] 0 n 103
abbrev cm:V:= .clo 109 []
def AC7 (a b:Int):Int:=if a<b then -1 else if b<a then 1 else 0
def or3 (a b c:Int):Int:=if a≠0 then a else if b≠0 then b else c
def ATF (x y:Msg):Int:=or3 (AC7 x.to y.to) (AC7 x.fr y.fr) (AC7 x.val y.val)
def ltM (x y:Msg):Bool:=decide (ATF x y<0)
theorem AQH {B:Type} {k:IntKind} {a b:Int} (h:b<a) (K:V→Option B):(AL .gtr (.int k a) (.int k b)).bind K=K (.bool true):=by
 rw[b_gtr,Option.bind_some,decide_eq_true h]
theorem AQI {B:Type} {k:IntKind} {a b:Int} (h:¬b<a) (K:V→Option B):(AL .gtr (.int k a) (.int k b)).bind K=K (.bool false):=by
 rw[b_gtr,Option.bind_some,decide_eq_false h]
theorem ATG {B:Type} (b:Bool) (K:V→Option B):(un .not (.bool b)).bind K=K (.bool (!b)):=rfl
theorem AC8 (m:Msg):Bc P 103 (Ac m)=true:=by simp[Bc,ACr,Ac]
theorem ATH (n:Nat) (m:Msg):(Ac m).under n=true:=rfl
theorem fM {B:Type} {id:Nat} (j:Nat) {u:TypeId} {p:List Nat} (hj:[3,3,2][j]?=some u) (hu:P.cellsOf u≠0) (K:V→Option B):(Af P 103 j (.ref id p 103)).bind K=K (.ref id (p++[j]) u):=
 AA (Ip (P:=P) ACr hj hu id p) K
theorem AQJ {B:Type} {h:List V} {id:Nat} {m:Msg} {x:Int} (j:Nat) (u:TypeId) (hj:[3,3,2][j]?=some u) (hu:P.cellsOf u≠0) (hh:h[id]?=some (Ac m)) (hx:[V.int .i64 m.fr,V.int .i64 m.to,V.int .i64 m.val][j]?=some (.int .i64 x)) (K:V→Option B):
 (Af P 103 j (.ref id [] 103)).bind (fun t=>(AX h u t).bind K)=K (.int .i64 x):=by
 refine(fM j hj hu _).trans ?_
 exact AA (CG (Iq hh hx)) K
theorem AC9 {B:Type} {h:List V} {id:Nat} {m:Msg} (hh:h[id]?=some (Ac m)) (K:V→Option B):(Af P 103 0 (.ref id [] 103)).bind (fun t=>(AX h 3 t).bind K)=K (.int .i64 m.fr):=AQJ 0 _ rfl (by rw[ACq];decide) hh rfl K
theorem ADA {B:Type} {h:List V} {id:Nat} {m:Msg} (hh:h[id]?=some (Ac m)) (K:V→Option B):(Af P 103 1 (.ref id [] 103)).bind (fun t=>(AX h 3 t).bind K)=K (.int .i64 m.to):=AQJ 1 _ rfl (by rw[ACq];decide) hh rfl K
theorem AAg {B:Type} {h:List V} {id:Nat} {m:Msg} (hh:h[id]?=some (Ac m)) (K:V→Option B):(Af P 103 2 (.ref id [] 103)).bind (fun t=>(AX h 2 t).bind K)=K (.int .i64 m.val):=AQJ 2 _ rfl (by rw[ASB];decide) hh rfl K
theorem AAh {B:Type} (b:Bool) (x y:Option B):V.ite (.bool b) x y=if b=true then x else y:=by cases b<;>rfl
theorem cmp_neg (x y:Msg):ltM x y=true↔(x.to<y.to∨(x.to=y.to∧(x.fr<y.fr∨(x.fr=y.fr∧x.val<y.val)))):=by
 simp only[ltM,ATF,or3,AC7,decide_eq_true_eq]
 rcases Int.lt_trichotomy x.to y.to with h|h|h
 ·simp[h]
 ·rcases Int.lt_trichotomy x.fr y.fr with g|g|g
  ·simp[h,g]
  ·rcases Int.lt_trichotomy x.val y.val with k|k|k
   ·simp[h,g,k]
   ·simp[h,g,k]
   ·have n:¬x.val<y.val:=by omega
    simp[h,g,k,n]
  ·have n:¬x.fr<y.fr:=by omega
   have n2:¬x.fr=y.fr:=by omega
   simp[h,g,n,n2]
 ·have n:¬x.to<y.to:=by omega
  have n2:¬x.to=y.to:=by omega
  simp[h,n,n2]
def BZ (f:Fl) (l:List Msg):V:= .lst 103 f (l.map Ac)
def DI (l:List Msg):List Msg:=l.mergeSort (fun x y=> !ltM y x)
theorem F6:∀l:List Msg,AU (l.map Ac)=true
 |[]=>rfl
 |x::l=>by simp only[List.map_cons,AU,F6 l];rfl
theorem ADB:∀l:List Msg,AP (l.map Ac)=l.map Ac
 |[]=>rfl
 |x::l=>by simp only[List.map_cons,AP,ADB l];rfl
theorem AH3 (l:List Msg):Hq P 103 (l.map Ac)=true:=by simp[Hq,AC8]
def P7 (m:Msg):Int×Int×Int:=(m.fr,m.to,m.val)
theorem AAi (x y:Msg):decide (TL 2 (P7 x) (P7 y)<0)=ltM x y:=by
 have hr:∀z,QJ 2 z=true:=fun _=>rfl
 rw[Bool.eq_iff_iff,decide_eq_true_eq,cmp_neg]
 unfold TL cl3
 rw[if_pos (hr _),if_pos (hr _),AH1 (by decide)]
 simp only[P7]
theorem ALp (x y:Int×Int×Int) (h1:decide (TL 2 x y<0)=false) (h2:decide (TL 2 y x<0)=false):x=y:=by
 have hr:∀z,QJ 2 z=true:=fun _=>rfl
 rw[decide_eq_false_iff_not]at h1 h2
 unfold TL cl3 at h1 h2
 rw[if_pos (hr _),if_pos (hr _),AH1 (by decide)]at h1 h2
 obtain⟨a,b,c⟩:=x
 obtain⟨a',b',c'⟩:=y
 simp only at h1 h2
 rw[Prod.mk.injEq,Prod.mk.injEq]
 omega
theorem AQK (l:List Msg):Fa 2 (l.map P7)=(DI l).map P7:=by
 have h:=Yo 2 (l.map P7)
 have e:=Sort.sorted_unique_holds (P6 2) ALp _ _ h.1 h.2
 simp only[List.toList_toArray]at e
 rw[e,DI]
 refine(List.map_mergeSort fun a _ b _=> ?_).symm
 rw[←AAi]
theorem AH4:∀l:List Msg,(l.map Ac).all (i3t 102)=true
 |[]=>rfl
 |x::l=>by rw[List.map_cons,List.all_cons,AH4 l];rfl
theorem ANf:∀l:List Msg,(l.map Ac).all (fun x=>QJ 2 (t3 x))=true
 |[]=>rfl
 |x::l=>by rw[List.map_cons,List.all_cons,ANf l];rfl
theorem ATI (l:List Msg):(l.map Ac).map t3=l.map P7:=by rw[List.map_map];rfl
theorem ATJ (l:List Msg):(l.map P7).map (Z4 102)=l.map Ac:=by rw[List.map_map];rfl
theorem sort_aps {h:List V} {id:Nat} {l:List Msg} (hh:h[id]?=some (rowM l.toArray)) (hl:l.length≤1000000):
 Z5 2000109 103 [winM id l.length,cm] h=some (.tup [],h.set id (rowM (DI l).toArray)):=by
 have hd:2000109/1000000=2:=rfl
 have tg:(l.map Ac).all (i3t (VO (l.map Ac)))=true:=by
  cases l with
  |nil=>rfl
  |cons x l=>exact AH4 (x::l)
 have mk:((Fa 2 (l.map P7)).map (Z4 (VO (l.map Ac))))=(DI l).map Ac:=by
  rw[AQK]
  cases l with
  |nil=>rw[show DI []=[]from by simp[DI]];rfl
  |cons x l=>exact ATJ _
 simp only[Z5,winM,rowM]at hh⊢
 have e1:Nat.beq l.length (l.map Ac).length=true:=by simp
 have e2:Nat.ble (l.map Ac).length EI=true:=by simp[EI,Nat.ble_eq];omega
 simp only[hh,hd]
 rw[if_pos (by simp only[tg,ANf,e1,e2];rfl),ATI,mk]
theorem AQL {B:Type} (f:Fl) (l:List Msg) (hl:l.length≤1000000) (k:V×List V→Option B):
 ((EP P 36 [] (.lst 103 .nil []) (BZ f l)).bind fun v=>(Dp [] v).bind k)=k (winM 0 l.length,[rowM l.toArray]):=by
 cases l with
 |nil=>
  refine(AA (show EP P 36 [] (.lst 103 .nil []) (BZ f [])=some (.lst 103 .nil [])by simp[EP,AAT,BZ,Ai,AU,Hq,EI,D8,AHN]) _).trans ?_
  rfl
 |cons x t=>
  refine(AA (AD5 AAT (Or.inr rfl) (y:=BZ f (x::t)) (ys:=(x::t).map Ac) rfl (F6 _) (AH3 _) (by simp;simp at hl;omega) AHN (fun _=>rfl)) _).trans ?_
  rw[List.nil_append]
  exact AA (show Dp [] (.lst 103 .own ((x::t).map Ac))=some (winM 0 (x::t).length,[rowM (x::t).toArray])by simp[Dp,winM,rowM]) _
theorem AAj (l:List Msg):(DI l).length=l.length:=by rw[DI,List.length_mergeSort]
theorem P8 (f:Fl) (l:List Msg) (hl:l.length≤1000000):Cl 73 [BZ f l] []=some (BZ .sh (DI l),[]):=by
 rw[AO8,AGp,AGq]
 refine(AQL f l hl _).trans ?_
 rw[AGr]
 refine(AA (sort_aps (h:=[rowM l.toArray]) (id:=0) rfl hl) _).trans ?_
 rw[AGt]
 have c:Ai [rowM (DI l).toArray] (winM 0 l.length)=some ((DI l).map Ac):=by
  simp[Ai,winM,rd,V.at,V.items,rowM]
  rw[←AAj l];exact List.take_of_length_le (by simp)
 have u:(winM 0 l.length).unmut [rowM (DI l).toArray]= .lst 103 .sh ((DI l).map Ac):=by
  rw[winM]at c⊢
  simp only[V.unmut,c,F6,ADB,if_true]
 show AQ 0 [rowM (DI l).toArray] (winM 0 l.length)=_
 simp only[AQ,u]
 rfl
end
section
open Go AM
def MOk (m:Msg):Prop:=I64 m.fr∧I64 m.to∧I64 m.val
def rowB (m:Msg):List UInt8:=if m.fr<0∨m.to<0 then[]else Ap m.fr.toNat++Ap m.to.toNat++Ap (Nw m.val)
theorem Yp (m:Msg):(rowB m).length≤30:=by
 have a:=Aj 10 m.fr.toNat;have b:=Aj 10 m.to.toNat;have c:=Aj 10 (Nw m.val)
 simp only[rowB];split
 ·simp
 ·simp only[List.length_append,Ap];omega
theorem Uo (h:List V):∀l:List Msg,AB h (l.map Ac)=l.map Ac
 |[]=>rfl
 |x::l=>by simp only[List.map_cons,AB,Uo h l];rfl
theorem AH5 (h:List V) (f:Fl) (l:List Msg):∃g,V.reify h (BZ f l)=BZ g l:=by
 cases f<;>simp only[BZ,V.reify,Uo]<;>exact⟨_,rfl⟩
theorem KF (h:List V) (f:Fl) (l:List Msg):∃g,AB h [BZ f l]=[BZ g l]:=by
 obtain⟨g,hg⟩:=AH5 h f l;exact⟨g,by simp only[AB,hg]⟩
theorem ALq (f:Fl) (l:List Msg):∃g,(BZ f l).weak=BZ g l:=JY
theorem AQM {m:Msg} (hm:MOk m):Cl 112 [Ac m] []=some (.str (rowB m),[]):=by
 obtain⟨h1,h2,h3⟩:=hm
 have c1:(Bc P 103 (Ac m)&&V.under (List.length ([]:List V)) (Ac m))=true:=by rw[AC8,ATH];rfl
 have g0:([]++[Ac m]:List V)[0]?=some (Ac m):=rfl
 rw[AKh,ABy,if_pos c1,ABz]
 refine(AC9 g0 _).trans ?_
 by_cases hf:m.fr<0
 ·refine(Hl hf _).trans ?_
  rw[BU,BU,WV,rowB,if_pos (Or.inl hf)];rfl
 refine(IC hf _).trans ?_
 rw[BV]
 refine(ADA g0 _).trans ?_
 by_cases ht:m.to<0
 ·refine(Hl ht _).trans ?_
  rw[BU,WV,rowB,if_pos (Or.inr ht)];rfl
 refine(IC ht _).trans ?_
 rw[BV,AB0]
 refine(AA (IX _) _).trans ?_
 have g1:∀o:V,([]++[Ac m]++[o]:List V)[0]?=some (Ac m):=fun o=>rfl
 have o1:∀o:V,([]++[Ac m]++[o]:List V)[1]?=some o:=fun o=>rfl
 have st:∀o o':V,([]++[Ac m]++[o]:List V).set 1 o'=[]++[Ac m]++[o']:=fun o o'=>rfl
 have a:=Aj 10 m.fr.toNat;have b:=Aj 10 m.to.toNat;have c:=Aj 10 (Nw m.val)
 have nr:∀(x:Int) (k:IntKind),AP [Di ([]++[Ac m]:List V).length,.int k x]=[Di 1,.int k x]:=fun x k=>rfl
 rw[AB1]
 refine(AC9 (g1 _) _).trans<|(AC4 (by omega) h1.2 _).trans ?_
 rw[nr]
 refine(AA (EH (o1 _) (Or.inr rfl) (by have:=h1.2;omega) (by simp)) _).trans ?_
 rw[st,AB2]
 refine(ADA (g1 _) _).trans<|(AC4 (by omega) h2.2 _).trans ?_
 rw[nr]
 refine(AA (EH (o1 _) (Or.inl rfl) (by have:=h2.2;omega) (by simp only[Ap,List.length_append,List.length_nil];omega)) _).trans ?_
 rw[st,AB3]
 refine(AAg (g1 _) _).trans ?_
 rw[nr]
 refine(AA (Ul (o1 _) (Or.inl rfl) h3.1 h3.2 (by simp only[Ap,List.length_append,List.length_nil];omega)) _).trans ?_
 rw[st,AB4]
 refine(AA (Gx (o1 _)) _).trans ?_
 rw[MJ,rowB,if_neg (by omega)]
 simp
theorem Ur:∀(n:Nat) (l:List Msg),Aa n (l.map Ac)=true
 |_,[]=>rfl
 |n,x::l=>by simp only[List.map_cons,Aa,Ur n l];rfl
theorem Yq (n:Nat) (f:Fl) (l:List Msg):(BZ f l).under n=true:=by cases f<;>first|rfl|exact Ur n l
theorem AH6 {l:List Msg} {i:Nat} (hi:i<l.length):(l.map Ac)[i]?=some (Ac l[i]):=by simp[hi]
theorem ALr (l:List Msg) (hl:∀m∈l,MOk m) (hn:l.length≤1000000) (g:Fl):∀(n i:Nat) (f:Fl) (done:List (List UInt8)),i+n=l.length→OK f→done.length=i→
 V5 (sL f done) (BZ g l) (iv l.length) (iv i) []=some (sL .sh (done++(l.drop i).map rowB),[]):=by
 intro n
 induction n with
 |zero=>
  intro i f done hi hf hd
  rw[UJ,AAQ]
  refine(IC (by omega) _).trans ?_
  rw[BV,AG8,AQF 0 [] f (by rcases hf with rfl|rfl<;>(intro h;cases h)),List.drop_eq_nil_of_le (by omega)]
  simp
 |succ n ih=>
  intro i f done hi hf hd
  have hlt:i<l.length:=by omega
  rw[UJ,AAQ]
  refine(Hl (by omega) _).trans ?_
  rw[BU,AG5]
  refine(AD3 AAT (AH6 hlt) _).trans<|(ldR _).trans ?_
  refine(AA (EM (P:=P) (h:=[]++[zero P 103]) (id:=0) rfl (AC8 _) rfl) _).trans ?_
  rw[AG6]
  refine(AA (CG (v:=Ac l[i]) (Eg rfl)) _).trans ?_
  refine(AA (AQM (hl _ (List.getElem_mem hlt))) _).trans ?_
  refine(ATE hf (by omega) _ _).trans ?_
  rw[AG7]
  refine(Gt (b:=1) (by omega) _).trans ?_
  have u:Aa (List.length ([]:List V)) [sL .own (done++[rowB l[i]]),BZ g l,iv l.length,iv (i+1)]=true:=by
   simp only[Aa,AH0,Yq];rfl
  refine(if_pos u).trans ?_
  have:=ih (i+1) .own (done++[rowB l[i]]) (by omega) (Or.inl rfl) (by simp[hd])
  rw[List.append_assoc]at this
  rw[List.drop_eq_getElem_cons hlt,List.map_cons]
  exact this
theorem AEA {l:List Msg} {m:Msg}:m∈DI l↔m∈l:=List.mem_mergeSort
theorem IZ (l:List Msg):(DI l).length=l.length:=List.length_mergeSort l
def Ia (l:List Msg):List (List UInt8):=(DI l).map rowB
theorem ADC {f:Fl} {l:List Msg} (hl:∀m∈l,MOk m) (hn:l.length≤1000000):Cl 80 [BZ f l] []=some (sL .sh (Ia l),[]):=by
 rw[APF,AG2,AG3,AG4]
 obtain⟨g,hg⟩:=KF [] f l
 rw[hg]
 refine(AA (P8 g l hn) _).trans ?_
 refine(AD2 Wj _).trans ?_
 have:=ALr (DI l) (fun m hm=>hl m (AEA.1 hm)) (by rw[IZ];exact hn) .sh (DI l).length 0 .nil [] (by omega) (Or.inr rfl) rfl
 rw[List.drop_zero,List.nil_append]at this
 rw[List.length_map]
 exact this
end
section
open Go AM
abbrev zMs:V:= .agg 102 [.int .i64 0,.int .i64 0,.int .i64 0]
theorem AAk (m:Msg) (n:Nat):(Ac m).under n=true:=rfl
theorem AEB (m:Msg):tyG 102 (Ac m)=true:=rfl
theorem AH7 {c:V} {H:List V} {p:Msg→Bool} {l:List Msg} (hu:c.under H.length=true) (hl:l.length≤1000000) {fl:Fl} (hfl:fl≠ .lent)
 (hc:∀m∈l,∀K:V→List V→Rv,BH P CX W c [Ac m] (H++[Ac m]) K=K (.bool (p m)) (H++[Ac m])):∀(n i:Nat) (acc:List Msg) (f:Fl),i+n=l.length→acc.length≤i→(f= .own∨f= .nil∧acc=[])→
 ∃f':Fl,(f'= .own∨f'= .nil)∧QX c (.lst 103 f (acc.map Ac)) (BZ fl l) (.int .i64 (l.length:Int)) (.int .i64 (i:Int)) H.length H=
  AQ H.length H (.lst 103 f' ((acc++(l.drop i).filter p).map Ac)):=by
 intro n
 induction n with
 |zero=>
  intro i acc f hi hacc hf
  have ls:AL .lss (.int .i64 (i:Int)) (.int .i64 (l.length:Int))=some (.bool false):=by rw[b_lss,decide_eq_false (by omega)]
  refine⟨f,by rcases hf with rfl|⟨rfl,_⟩<;>simp,?_⟩
  rw[List.drop_eq_nil_of_le (by omega),List.filter_nil,List.append_nil,Nh]
  refine(AA ls _).trans ?_
  exact CV _ _
 |succ n ih=>
  intro i acc f hi hacc hf
  have h:i<l.length:=by omega
  have ls:AL .lss (.int .i64 (i:Int)) (.int .i64 (l.length:Int))=some (.bool true):=by rw[b_lss,decide_eq_true (by omega)]
  have ix:D9 103 (BZ fl l) (.int .i64 (i:Int))=some (.rop 103 (Ac l[i])):=by
   rw[BZ,DL,List.getElem?_map,List.getElem?_eq_getElem h];rfl
  have l1:AX H 103 (.rop 103 (Ac l[i]))=some (Ac l[i]):=EK
  have st:=Gq (H:=H) (z:=zMs) (AEB l[i]) (AAk l[i] _) 103
  have l2:=RN H (Ac l[i]) 103
  have cv:=hc _ (List.getElem_mem h)
  have nb:∀b:Bool,V.noOwn (.bool b)=true:=fun _=>rfl
  have ad:AL .add (.int .i64 (i:Int)) (.int .i64 1)=some (.int .i64 ((i+1:Nat):Int)):=by rw[Bq,wrap_i64 (by omega) (by omega)];rfl
  have uL:∀(f:Fl) (L:List V),(f= .own∨f= .nil)→∀z:Int,Aa H.length [c,.lst 103 f L,BZ fl l,.int .i64 (l.length:Int),.int .i64 z]=true:=fun f L hf z=>by
   simp only[Aa,hu,Bool.true_and,V.under,Bool.and_true]
   rcases hf with rfl|rfl<;>(cases fl<;>first|rfl|exact absurd rfl hfl)
  rw[List.drop_eq_getElem_cons h]
  cases hq:p l[i]with
  |true=>
   rw[hq]at cv
   obtain⟨f',hf',ih'⟩:=ih (i+1) (acc++[l[i]]) .own (by omega) (by simp;omega) (.inl rfl)
   refine⟨f',hf',?_⟩
   have bs:NU 103 false (ck [(tyG 102) (Ac l[i])] [Ac l[i]])=some (.lst 103 .own [Ac l[i]]):=rfl
   have ap:∀h:List V,FU 103 (tyG 102) false h (.lst 103 f (acc.map Ac)) (.lst 103 .own [Ac l[i]])=some (.lst 103 .own ((acc++[l[i]]).map Ac)):=fun h=>by
    have cl:AU [Ac l[i]]=true:=rfl
    have ty:[Ac l[i]].all (tyG 102)=true:=rfl
    rw[List.map_append]
    rcases hf with rfl|⟨rfl,rfl⟩
    ·rw[Bj cl ty (by simp;omega)];rfl
    ·rw[List.map_nil,Bf cl ty (by simp)];rfl
   have u2:=uL .own ((acc++[l[i]]).map Ac) (.inl rfl) ((i+1:Nat):Int)
   rw[List.filter_cons_of_pos hq,show acc++l[i]::(l.drop (i+1)).filter p=acc++[l[i]]++(l.drop (i+1)).filter p by simp,←ih',Nh]
   refine(AA ls _).trans ?_
   refine(CO _ _).trans ?_
   refine(AA ix _).trans ?_
   refine(AA l1 _).trans ?_
   refine(AA st _).trans ?_
   refine(AA l2 _).trans ?_
   refine(cv _).trans ?_
   refine(if_pos (nb true)).trans ?_
   refine(CO _ _).trans ?_
   refine(AA l2 _).trans ?_
   refine(AA bs _).trans ?_
   refine(AA (ap _) _).trans ?_
   refine(AA ad _).trans ?_
   rw[if_pos u2,Gn]
  |false=>
   rw[hq]at cv
   obtain⟨f',hf',ih'⟩:=ih (i+1) acc f (by omega) (by omega) hf
   refine⟨f',hf',?_⟩
   have u2:=uL f (acc.map Ac) (by rcases hf with rfl|⟨rfl,_⟩<;>simp) ((i+1:Nat):Int)
   rw[List.filter_cons_of_neg (by simp[hq]),←ih',Nh]
   refine(AA ls _).trans ?_
   refine(CO _ _).trans ?_
   refine(AA ix _).trans ?_
   refine(AA l1 _).trans ?_
   refine(AA st _).trans ?_
   refine(AA l2 _).trans ?_
   refine(cv _).trans ?_
   refine(if_pos (nb false)).trans ?_
   refine(CV _ _).trans ?_
   refine(AA ad _).trans ?_
   rw[if_pos u2,Gn]
theorem Yr {c:V} {H:List V} {p:Msg→Bool} {l:List Msg} (hu:c.under H.length=true) (hl:l.length≤1000000) {fl:Fl} (hfl:fl≠ .lent)
 (hc:∀m∈l,∀K:V→List V→Rv,BH P CX W c [Ac m] (H++[Ac m]) K=K (.bool (p m)) (H++[Ac m])):
 Cl 74 [BZ fl l,c] H=some (BZ .sh (l.filter p),H):=by
 obtain⟨f',hf',lp⟩:=AH7 hu hl hfl hc l.length 0 [] .nil (by omega) (Nat.le_refl 0) (.inr ⟨rfl,rfl⟩)
 rw[List.drop_zero,List.nil_append,List.map_nil]at lp
 have lL:EJ (BZ fl l)=some (.int .i64 (l.length:Int)):=by show some _=_;rw[List.length_map]
 have fn:AQ H.length H (.lst 103 f' ((l.filter p).map Ac))=some (BZ .sh (l.filter p),H):=by
  rcases hf' with rfl|rfl<;>simp only[AQ,V.unmut,V.norm,V.clean,V.over,Bool.and_self,if_true,take_len,BZ]
 rw[←fn,←lp,AO9]
 exact AA lL _
theorem ANg {l:List Msg} (hl:l.length≤1000000) (v:Int) {fl:Fl} (hfl:fl= .sh∨fl= .nil∨fl= .own):Cl 64 [BZ fl l,.int .i64 v] []=some (BZ .sh (DI (l.filter fun m=>decide (m.to=v))),[]):=by
 have hc:∀m∈l,∀K:V→List V→Rv,BH P CX W (.clo 102 [.ref 0 [] 3]) [Ac m] ([.int .i64 v]++[Ac m]) K=K (.bool (decide (m.to=v))) ([.int .i64 v]++[Ac m]):=fun m _ K=>by
  refine(FC K (by kernel_rfl) (by kernel_rfl)).trans ?_
  have e:Cl 102 [Ac m,.ref 0 [] 3] ([.int .i64 v]++[Ac m])=some (.bool (decide (m.to=v)),[.int .i64 v]++[Ac m]):=by
   obtain⟨a,b,c⟩:=m
   have eq:=b_eql .i64 b v
   rw[AKZ]
   cases hd:decide (b=v)
   all_goals
    rw[hd]at eq
    unfold Ac
    (repeat' with_reducible first|refine(CO _ _).trans ?_|refine(CV _ _).trans ?_|refine(AO _ _).trans ?_|((first|(refine' (AA ?_ _).trans ?_;rotate_left)|refine(if_pos ?_).trans ?_|refine(BL ?_ _ _).trans ?_);focus (first|rfl|(simp(disch:=first|assumption|omega|with_reducible rfl|(simp only[go_sem]<;>omega)|fail) only[↓reduceIte,↓AO,Nat.reduceAdd,go_sem,Bool.not_true,Bool.not_false,eq]<;>first|rfl|omega)|assumption|omega))|(refine(BA ?_ _ _).trans ?_;focus (first|(simp(disch:=first|assumption|omega|with_reducible rfl|(simp only[go_sem]<;>omega)|fail) only[↓reduceIte,↓AO,Nat.reduceAdd,go_sem,Bool.not_true,Bool.not_false,eq]<;>omega)|assumption|omega))|fail)
    rfl
  exact AA e _
 have pk:=Yr (c:= .clo 102 [.ref 0 [] 3]) (H:=[.int .i64 v]) (p:=fun m=>decide (m.to=v)) (l:=l) (fl:= .sh) rfl hl (by simp) hc
 have pk2:∀fl:Fl,(fl= .sh∨fl= .nil∨fl= .own)→Cl 74 (AP [BZ fl l,.clo 102 [.ref 0 [] 3]]) [.int .i64 v]=some (BZ .sh (l.filter fun m=>decide (m.to=v)),[.int .i64 v]):=fun fl hfl=>by
  rcases hfl with rfl|rfl|rfl<;>exact pk
 have so:=P8 .sh (l.filter fun m=>decide (m.to=v)) (by have:=List.length_filter_le (fun m:Msg=>decide (m.to=v)) l;omega)
 rw[AO0]
 have t0:((AM.tyI .i64) (.int .i64 v)&&V.under 0 (.int .i64 v))=true:=rfl
 refine(if_pos t0).trans ?_
 refine(AA (show _=some (V.clo 102 [.ref 0 [] 3])from rfl) _).trans ?_
 refine(AA (pk2 fl hfl) _).trans ?_
 refine(AA (show Cl 73 (AB [.int .i64 v] [BZ .sh (l.filter fun m=>decide (m.to=v))]) []=_ from so) _).trans ?_
 rfl
end
section
open Go AM
theorem AAl {B:Type} {p:Prop} [Decidable p] {a b:Option B} {r:Option B} (h:p→a=r) (h2:¬p→b=r):V.ite (.bool (decide p)) a b=r:=by
 by_cases hp:p
 ·rw[decide_eq_true hp];exact h hp
 ·rw[decide_eq_false hp];exact h2 hp
theorem AAm {B:Type} {p:Bool} {a b:Option B} {r:Option B} (h:p=true→a=r) (h2:p=false→b=r):V.ite (.bool p) a b=r:=by
 cases p
 ·exact h2 rfl
 ·exact h rfl
@[go_sem] theorem ARf (id:Nat) (p:List Nat) (t:TypeId):V.capOk (.ref id p t)=true:=(rfl)
@[go_sem] theorem ARg {B:Type} (a b:B):(if(true:Bool)=true then a else b)=a:=(rfl)
theorem Ny {R:Type} {f:FuncId} {cs vs h:List V} (k:V→List V→Option R) (he:CX.ext f=false) (hp:CX.pure f=false) {r:V} {h':List V} (e:Cl f (AP (vs++cs)) h=some (r,h')) (hs:(CX.seq f).1=0:=by kernel_rfl):BH P CX W (.clo f cs) vs h k=k r h':=by
 rw[FC k he hp hs,e];rfl
end
section
open Go AM
namespace Ed
structure Edg where
 fr:Nat
 to:Nat
 w:Int
 hf:fr<64
 ht:to<64
instance:Inhabited Edg:=⟨⟨0,0,0,by omega,by omega⟩⟩
def vEdg (e:Edg):V:= .agg 51 [.int .i64 (e.fr:Int),.int .i64 (e.to:Int),.int .i64 e.w]
def cmpE (x y:Edg):Int:=if x.fr=y.fr then(x.to:Int)-y.to else(x.fr:Int)-y.fr
def ltE (x y:Edg):Bool:=decide (cmpE x y<0)
@[go_sem] theorem AUg (x:Edg):(vEdg x).pl=true:=(rfl)
@[go_sem] theorem ATK (x:Edg):tyG 51 (vEdg x)=true:=RJ ..
theorem compare_am (x y:Edg):Cl 98 [vEdg x,vEdg y] []=some (.int .i64 (cmpE x y),[]):=by
 have h1:=x.hf;have h2:=x.ht;have h3:=y.hf;have h4:=y.ht
 rw[APO,cmpE]
 by_cases h:x.fr=y.fr
 ·rw[if_pos h]
  simp only[vEdg]
  simp(disch:=first|assumption|omega|(with_reducible rfl)|(simp only[go_sem];done)|(simp only[go_sem];omega)|fail) only[↓reduceIte,↓AO,Nat.reduceAdd,go_sem,h]
 ·rw[if_neg h]
  have:¬(x.fr:Int)=(y.fr:Int):=by omega
  simp only[vEdg]
  simp(disch:=first|assumption|omega|(with_reducible rfl)|(simp only[go_sem];done)|(simp only[go_sem];omega)|fail) only[↓reduceIte,↓AO,Nat.reduceAdd,go_sem]
theorem ltE_iff (x y:Edg):ltE x y=true↔(x.fr<y.fr∨x.fr=y.fr∧x.to<y.to):=by
 rw[ltE,decide_eq_true_eq,cmpE]
 by_cases h:x.fr=y.fr
 ·rw[if_pos h];constructor<;>intro k<;>omega
 ·rw[if_neg h];constructor<;>intro k<;>omega
theorem ltE_iff' (x y:Edg):ltE x y=false↔¬(x.fr<y.fr∨x.fr=y.fr∧x.to<y.to):=by
 rw[←ltE_iff,Bool.not_eq_true]
abbrev cm:V:= .clo 98 []
def rowM (d:Array Edg):V:= .row 52 (d.toList.map vEdg)
def winM (id n:Nat):V:= .win id [] 0 n 52
def P7 (e:Edg):Int×Int×Int:=(e.fr,e.to,e.w)
theorem AH8 {α β:Type} (f:α→β) {r s:List β} (h:r.Perm s):∀l:List α,l.map f=s→∃l':List α,l'.Perm l∧l'.map f=r:=by
 induction h with
 |nil=>intro l hl;exact⟨l,List.Perm.refl _,hl⟩
 |cons x h ih=>
  intro l hl
  match l,hl with
  |y::l,hl=>
   simp only[List.map_cons,List.cons.injEq]at hl
   obtain⟨l',h1,h2⟩:=ih l hl.2
   exact⟨y::l',h1.cons y,by rw[List.map_cons,hl.1,h2]⟩
 |swap x y r=>
  intro l hl
  match l,hl with
  |a::b::l,hl=>
   simp only[List.map_cons,List.cons.injEq]at hl
   exact⟨b::a::l,List.Perm.swap a b l,by simp[hl]⟩
 |trans h1 h2 ih1 ih2=>
  intro l hl
  obtain⟨l1,a1,a2⟩:=ih2 l hl
  obtain⟨l2,b1,b2⟩:=ih1 l1 a2
  exact⟨l2,b1.trans a1,b2⟩
theorem W9 (l:List Edg):∃l':List Edg,l'.Perm l∧l'.map P7=Fa 1 (l.map P7):=AH8 P7 (KE 1 _) l rfl
def srtL (l:List Edg):List Edg:=Classical.choose (W9 l)
theorem srtL_perm (l:List Edg):(srtL l).Perm l:=(Classical.choose_spec (W9 l)).1
theorem Yt (l:List Edg):(srtL l).map P7=Fa 1 (l.map P7):=(Classical.choose_spec (W9 l)).2
theorem AAn (x:Edg):QJ 1 (P7 x)=true:=by
 have:=x.hf;have:=x.ht
 refine Bool.or_eq_true_iff.2 (Or.inr ?_)
 simp only[Bool.and_eq_true,P7]
 refine⟨⟨⟨?_,?_⟩,?_⟩,?_⟩<;>exact decide_eq_true (by omega)
theorem AAi (x y:Edg):decide (TL 1 (P7 x) (P7 y)<0)=ltE x y:=by
 rw[Bool.eq_iff_iff,decide_eq_true_eq,ltE_iff]
 unfold TL cl3
 rw[if_pos (AAn x),if_pos (AAn y),ANe (by rfl)]
 simp only[P7];omega
theorem srtL_sorted (l:List Edg):(srtL l).Pairwise (fun a b=>ltE b a=false):=by
 have h:=(Yo 1 (l.map P7)).2
 rw[←Yt]at h
 rw[List.pairwise_iff_getElem]
 intro i j hi hj hij
 have hlen:=(srtL_perm l).length_eq
 have:=h i j (Nat.zero_le _) hij (by simp;omega)
 simp only[List.getElem!_toArray,List.getElem!_eq_getElem?_getD,List.getElem?_map,List.getElem?_eq_getElem hi,List.getElem?_eq_getElem hj,Option.map_some,Option.getD_some]at this
 rw[AAi]at this
 exact this
theorem AH9 (u:TypeId):∀l:List Edg,(l.map vEdg).all (i3t 51)=true
 |[]=>rfl
 |x::l=>by rw[List.map_cons,List.all_cons,AH9 u l];rfl
theorem ANh:∀l:List Edg,(l.map vEdg).all (fun x=>QJ 1 (t3 x))=true
 |[]=>rfl
 |x::l=>by rw[List.map_cons,List.all_cons,ANh l,Bool.and_true];exact AAn x
theorem ATL (l:List Edg):(l.map vEdg).map t3=l.map P7:=by rw[List.map_map];rfl
theorem ATM (l:List Edg):(l.map P7).map (Z4 51)=l.map vEdg:=by rw[List.map_map];rfl
theorem sort_aps {h:List V} {id:Nat} {l:List Edg} (hh:h[id]?=some (rowM l.toArray)) (hl:l.length≤1000000):
 Z5 1000098 52 [winM id l.length,cm] h=some (.tup [],h.set id (rowM (srtL l).toArray)):=by
 have hd:1000098/1000000=1:=rfl
 have tg:(l.map vEdg).all (i3t (VO (l.map vEdg)))=true:=by
  cases l with
  |nil=>rfl
  |cons x l=>exact AH9 0 (x::l)
 have mk:((Fa 1 (l.map P7)).map (Z4 (VO (l.map vEdg))))=(srtL l).map vEdg:=by
  rw[←Yt]
  cases l with
  |nil=>rw[List.perm_nil.1 (srtL_perm [])];rfl
  |cons x l=>exact ATM _
 simp only[Z5,winM,rowM]at hh⊢
 have e1:Nat.beq l.length (l.map vEdg).length=true:=by simp
 have e2:Nat.ble (l.map vEdg).length EI=true:=by simp[EI,Nat.ble_eq];omega
 simp only[hh,hd]
 rw[if_pos (by simp only[tg,ANh,e1,e2];rfl),ATL,mk]
end Ed
end
section
open Go AM
structure E0 where
 fr:Int
 to:Int
 w:Int
 deriving DecidableEq
abbrev tE:TypeId:=51
def EX (e:E0):V:= .agg tE [.int .i64 e.fr,.int .i64 e.to,.int .i64 e.w]
@[go_sem] theorem AVj (x:E0):(EX x).pl=true:=(rfl)
@[go_sem] theorem ADE (l:List E0):Iu (l.map EX)=true:=DC (fun _=>rfl) l
@[go_sem] theorem ADF (x:E0):tyG tE (EX x)=true:=RJ ..
theorem Yu {l:List E0} {i:Nat} (h:i<l.length):(l.map EX)[i]?=some (EX l[i]):=by simp[h]
structure Grf where
 n:Int
 es:List E0
abbrev vG (f:Fl) (g:Grf):V:= .agg 23 [.int .i64 g.n,.lst 52 f (g.es.map EX)]
def F7 (n:Int) (e:E0):Bool:=decide (e.fr<0)||decide (n≤e.fr)||decide (e.to<0)||decide (n≤e.to)||decide (e.w<0)||decide (1048576<e.w)
abbrev rG:V:= .ref 0 [] 24
theorem AQN (n:Int) (l:V) (e:E0):Cl 94 [EX e,rG] [.agg 23 [.int .i64 n,l]]=some (.bool (F7 n e),[.agg 23 [.int .i64 n,l]]):=by
 rw[APM]
 simp only[EX]
 repeat' first|rfl|refine AAl (fun _=> ?_) (fun _=> ?_)|refine AAm (fun _=> ?_) (fun _=> ?_)|simp(disch:=first|assumption|omega|(with_reducible rfl)|(simp only[go_sem];done)|(simp only[go_sem];omega)|fail) only[↓reduceIte,↓AO,Nat.reduceAdd,go_sem]
 all_goals (simp_all [F7]<;>omega)
abbrev ALs:V:= .clo 94 [rG]
theorem ATN {R:Type} (n:Int) (l:V) (e:E0) (k:V→List V→Option R):BH P CX W ALs [EX e] [.agg 23 [.int .i64 n,l]] k=k (.bool (F7 n e)) [.agg 23 [.int .i64 n,l]]:=
 Ny k (by kernel_rfl) (by kernel_rfl) (AQN n l e)
def Nz {α:Type} (p:α→Bool):Nat→List α→Int
 |_,[]=> -1
 |i,x::l=>if p x=true then(i:Int)else Nz p (i+1) l
theorem Yv {α:Type} (p:α→Bool):∀(l:List α) (i:Nat),0≤Nz p i l↔l.any p=true
 |[],i=>by simp[Nz]
 |x::l,i=>by
  rw[Nz,List.any_cons]
  by_cases h:p x=true
  ·rw[if_pos h,h];simp
  ·rw[if_neg h,Yv p l (i+1)];simp[h]
theorem ADG {α:Type} (p:α→Bool) (l:List α) (i:Nat):decide (0≤Nz p i l)=l.any p:=by
 rw[Bool.eq_iff_iff,decide_eq_true_eq];exact Yv p l i
theorem ALt (n:Int) (L:V) (es:List E0) (hl:es.length<1000000) (f:Fl):∀(m i:Nat),i+m=es.length→
 PU (.lst 52 f (es.map EX)) ALs (.int .i64 (es.length:Int)) (.int .i64 (i:Int)) 1 [.agg 23 [.int .i64 n,L]]=
  some (.int .i64 (Nz (F7 n) i (es.drop i)),[.agg 23 [.int .i64 n,L]]):=by
 intro m
 induction m with
 |zero=>
  intro i hi
  rw[List.drop_eq_nil_of_le (by omega),Qk]
  simp(disch:=first|assumption|omega|(with_reducible rfl)|(simp only[go_sem];done)|(simp only[go_sem];omega)|fail) only[↓reduceIte,↓AO,Nat.reduceAdd,go_sem,Nz]
 |succ m ih=>
  intro i hi
  have h:i<es.length:=by omega
  have:=ih (i+1) (by omega)
  rw[List.drop_eq_getElem_cons h,Nz,Qk]
  by_cases ho:F7 n es[i]=true
  ·rw[if_pos ho]
   simp(disch:=first|assumption|omega|(with_reducible rfl)|(simp only[go_sem];done)|(simp only[go_sem];omega)|fail) only[↓reduceIte,↓AO,Nat.reduceAdd,go_sem,Yu h,ATN,ho]
  ·rw[if_neg ho,←this]
   simp(disch:=first|assumption|omega|(with_reducible rfl)|(simp only[go_sem];done)|(simp only[go_sem];omega)|fail) only[↓reduceIte,↓AO,Nat.reduceAdd,go_sem,Yu h,ATN,ho]
theorem ALu (n:Int) (L:V) {es:List E0} (hl:es.length<1000000) (f:Fl):Cl 95 [.lst 52 f (es.map EX),ALs] [.agg 23 [.int .i64 n,L]]=some (.bool (es.any (F7 n)),[.agg 23 [.int .i64 n,L]]):=by
 have h:=fun f=>ALt n L es hl f es.length 0 (by omega)
 simp only[c0,List.drop_zero]at h
 have ix:∀f,Cl 121 [.lst 52 f (es.map EX),ALs] [.agg 23 [.int .i64 n,L]]=some (.int .i64 (Nz (F7 n) 0 es),[.agg 23 [.int .i64 n,L]]):=fun f=>by
  rw[←h f,AKr]
  simp(disch:=first|assumption|omega|(with_reducible rfl)|(simp only[go_sem];done)|(simp only[go_sem];omega)|fail) only[↓reduceIte,↓AO,Nat.reduceAdd,go_sem]
 rw[APN,←ADG (F7 n) es 0]
 simp(disch:=first|assumption|omega|(with_reducible rfl)|(simp only[go_sem];done)|(simp only[go_sem];omega)|fail) only[↓reduceIte,↓AO,Nat.reduceAdd,go_sem,ix]
def AIA (n:Int) (e:E0) (h:F7 n e=false) (hn:n≤64):Ed.Edg:=⟨e.fr.toNat,e.to.toNat,e.w,by simp[F7]at h;omega,by simp[F7]at h;omega⟩
theorem AIB {n:Int} (hn:n≤64):∀es:List E0,es.any (F7 n)=false→∃l:List Ed.Edg,l.map Ed.vEdg=es.map EX∧l.map (fun x=>((x.fr:Int),(x.to:Int)))=es.map fun e=>(e.fr,e.to)
 |[],_=>⟨[],rfl,rfl⟩
 |e::es,h=>by
  rw[List.any_cons,Bool.or_eq_false_iff]at h
  obtain⟨l,h1,h2⟩:=AIB hn es h.2
  have hb:=h.1
  simp only[F7,Bool.or_eq_false_iff,decide_eq_false_iff_not]at hb
  refine⟨AIA n e h.1 hn::l,?_,?_⟩
  ·rw[List.map_cons,List.map_cons,h1,Ed.vEdg,EX,AIA]
   simp only[]
   rw[show(e.fr.toNat:Int)=e.fr by omega,show(e.to.toNat:Int)=e.to by omega]
  ·rw[List.map_cons,List.map_cons,h2,AIA]
   simp only[]
   rw[show(e.fr.toNat:Int)=e.fr by omega,show(e.to.toNat:Int)=e.to by omega]
abbrev GR (f:Fl) (l:List Ed.Edg):V:= .lst 52 f (l.map Ed.vEdg)
def CZ (l:List Ed.Edg):List Ed.Edg:=Ed.srtL l
theorem Lh (l:List Ed.Edg):(CZ l).Perm l:=Ed.srtL_perm l
theorem KG (l:List Ed.Edg):(CZ l).length=l.length:=(Lh l).length_eq
theorem AEC (a:V) (f:Fl) (l:List Ed.Edg):Cl 97 [GR .sh l] [a]=some (.clo 124 [.ref 1 [] 22],[a,GR .sh l]):=by
 rw[AHK]
 simp(disch:=first|assumption|omega|(with_reducible rfl)|(simp only[go_sem];done)|(simp only[go_sem];omega)|fail) only[↓reduceIte,↓AO,Nat.reduceAdd,go_sem]
 rfl
theorem AIC (l:List Ed.Edg):(l.map Ed.vEdg).all i3=true:=by simp[Ed.vEdg,i3]
theorem AAo (a:V) {l:List Ed.Edg} (hl:l.length≤1000000):Cl 122 [.clo 124 [.ref 1 [] 22]] [a,GR .sh l]=some (Ed.winM 2 l.length,[a,GR .sh l,Ed.rowM l.toArray]):=by
 rw[ACV]
 have ap:Z5 124 52 [.lst 52 .nil [],.clo 124 [.ref 1 [] 22]] [a,GR .sh l]=some (Ed.winM 2 l.length,[a,GR .sh l,Ed.rowM l.toArray]):=by
  simp only[Z5,List.getElem?_cons_succ,List.getElem?_cons_zero,AIC,List.length_map]
  rw[if_pos (by simp[EI,Nat.ble_eq];omega)]
  simp[Ed.winM,Ed.rowM]
 rw[ap];rfl
theorem AAp (a:V) {l:List Ed.Edg} (hl:l.length≤1000000):Cl 96 [.clo 124 [.ref 1 [] 22],Ed.cm] [a,GR .sh l]=some (GR .sh (CZ l),[a,GR .sh l]):=by
 have c:=AAo a hl
 have s:Z5 1000098 52 [Ed.winM 2 l.length,Ed.cm] [a,GR .sh l,Ed.rowM l.toArray]=some (.tup [],[a,GR .sh l,Ed.rowM (CZ l).toArray]):=Ed.sort_aps rfl hl
 have ct:Ai [a,GR .sh l,Ed.rowM (CZ l).toArray] (Ed.winM 2 l.length)=some ((CZ l).map Ed.vEdg):=by
  simp[Ai,Ed.winM,rd,V.at,V.items,Ed.rowM]
  rw[←KG l];exact List.take_of_length_le (by simp)
 have cl:AU ((CZ l).map Ed.vEdg)=true:=Nl (DC (fun _=>rfl) _)
 have nl:AP ((CZ l).map Ed.vEdg)=(CZ l).map Ed.vEdg:=MI (DC (fun _=>rfl) _)
 have fin:AQ 2 [a,GR .sh l,Ed.rowM (CZ l).toArray] (Ed.winM 2 l.length)=some (GR .sh (CZ l),[a,GR .sh l]):=by
  have u:(Ed.winM 2 l.length).unmut [a,GR .sh l,Ed.rowM (CZ l).toArray]=GR .sh (CZ l):=by
   rw[Ed.winM]at ct⊢
   simp only[V.unmut,ct,cl,nl,if_true]
  simp only[AQ,u];rfl
 rw[AHJ]
 refine(AA c _).trans ?_
 refine(AA s _).trans ?_
 exact fin
def Yw:Ed.Edg→List Ed.Edg→Bool
 |_,[]=>false
 |x,y::r=>decide (Ed.cmpE x y=0)||Yw y r
@[go_sem] theorem ADH (l:List Ed.Edg):Iu (l.map Ed.vEdg)=true:=DC (fun _=>rfl) l
theorem XA {l:List Ed.Edg} {i:Nat} (h:i<l.length):(l.map Ed.vEdg)[i]?=some (Ed.vEdg l[i]):=by simp[h]
theorem ALv (a b:V) {l:List Ed.Edg} (hl:l.length≤1000000):∀(n i:Nat) (hi:i<l.length),i+1+n=l.length→
 QV (GR .sh l) (.int .i64 ((i+1:Nat):Int)) [a,b]=some (.int .i64 (if Yw l[i] (l.drop (i+1))=true then 51 else 0),[]):=by
 intro n
 induction n with
 |zero=>
  intro i hi hn
  rw[List.drop_eq_nil_of_le (by omega),Yw,Nc]
  simp(disch:=first|assumption|omega|(with_reducible rfl)|(simp only[go_sem];done)|(simp only[go_sem];omega)|fail) only[↓reduceIte,↓AO,Nat.reduceAdd,go_sem]
  rfl
 |succ n ih=>
  intro i hi hn
  have h:i+1<l.length:=by omega
  have:=ih (i+1) h (by omega)
  rw[List.drop_eq_getElem_cons h,Yw,Nc]
  by_cases hc:Ed.cmpE l[i] l[i+1]=0
  ·rw[decide_eq_true hc,Bool.true_or,if_pos rfl]
   simp(disch:=first|assumption|omega|(with_reducible rfl)|(simp only[go_sem];done)|(simp only[go_sem];omega)|fail) only[↓reduceIte,↓AO,Nat.reduceAdd,go_sem,XA hi,XA h,Ed.compare_am,hc,Nat.add_sub_cancel]
  ·rw[decide_eq_false hc,Bool.false_or,←this]
   simp(disch:=first|assumption|omega|(with_reducible rfl)|(simp only[go_sem];done)|(simp only[go_sem];omega)|fail) only[↓reduceIte,↓AO,Nat.reduceAdd,go_sem,XA hi,XA h,Ed.compare_am,Nat.add_sub_cancel]
def KU (x:Ed.Edg):Int×Int:=((x.fr:Int),(x.to:Int))
theorem ALw (x y:Ed.Edg):Ed.cmpE x y=0↔KU x=KU y:=by
 rw[Ed.cmpE,KU,KU,Prod.mk.injEq]
 by_cases h:x.fr=y.fr
 ·rw[if_pos h];omega
 ·rw[if_neg h];omega
theorem Ol {x y:Ed.Edg} (h:Ed.ltE y x=false) (hn:KU x≠KU y):Ed.ltE x y=true:=by
 rw[Ed.ltE_iff']at h
 rw[Ed.ltE_iff]
 simp only[KU,ne_eq,Prod.mk.injEq]at hn
 omega
theorem ADI:∀(r:List Ed.Edg) (x:Ed.Edg),(x::r).Pairwise (fun a b=>Ed.ltE b a=false)→(Yw x r=false↔((x::r).map KU).Nodup)
 |[],x,_=>by simp[Yw]
 |y::r,x,h=>by
  obtain⟨h1,h2⟩:=List.pairwise_cons.1 h
  have ih:=ADI r y h2
  rw[Yw,Bool.or_eq_false_iff,ih,decide_eq_false_iff_not,ALw,List.map_cons (l:=y::r),List.nodup_cons]
  refine and_congr_left fun hd=>⟨fun hn hm=> ?_,fun hm he=>hm (by rw[he];simp)⟩
  obtain⟨z,hz,he⟩:=List.mem_map.1 hm
  rcases List.mem_cons.1 hz with rfl|hz
  ·exact hn he.symm
  ·have a:=Ol (h1 y List.mem_cons_self) hn
   have b:=(List.pairwise_cons.1 h2).1 z hz
   rw[Ed.ltE_iff]at a
   rw[Ed.ltE_iff']at b
   simp only[KU,Prod.mk.injEq]at he
   omega
theorem MO (l:List Ed.Edg):(CZ l).Pairwise (fun a b=>Ed.ltE b a=false):=Ed.srtL_sorted l
def F8 (g:Grf):Int:=if 1≤g.n∧g.n≤64∧g.es.length≤512∧g.es.any (F7 g.n)=false then(if(g.es.map fun e=>(e.fr,e.to)).Nodup then 0 else 51)else 50
theorem Us {g:Grf} (hl:g.es.length<1000000):Cl 53 [vG .sh g] []=some (.int .i64 (F8 g),[]):=by
 have an:=ALu g.n (.lst 52 .sh (g.es.map EX)) hl .sh
 by_cases h1:g.n<1
 ·rw[F8,if_neg (by omega),QW]
  simp(disch:=first|assumption|omega|(with_reducible rfl)|(simp only[go_sem];done)|(simp only[go_sem];omega)|fail) only[↓reduceIte,↓AO,Nat.reduceAdd,go_sem]
 by_cases h2:64<g.n
 ·rw[F8,if_neg (by omega),QW]
  simp(disch:=first|assumption|omega|(with_reducible rfl)|(simp only[go_sem];done)|(simp only[go_sem];omega)|fail) only[↓reduceIte,↓AO,Nat.reduceAdd,go_sem]
 by_cases h3:512<g.es.length
 ·rw[F8,if_neg (by omega),QW]
  simp(disch:=first|assumption|omega|(with_reducible rfl)|(simp only[go_sem];done)|(simp only[go_sem];omega)|fail) only[↓reduceIte,↓AO,Nat.reduceAdd,go_sem]
 by_cases h4:g.es.any (F7 g.n)=true
 ·rw[F8,if_neg (by rw[h4];simp),QW]
  simp(disch:=first|assumption|omega|(with_reducible rfl)|(simp only[go_sem];done)|(simp only[go_sem];omega)|fail) only[↓reduceIte,↓AO,Nat.reduceAdd,go_sem,an,h4]
 have h4:g.es.any (F7 g.n)=false:=by simpa using h4
 obtain⟨l,l1,l2⟩:=AIB (by omega) g.es h4
 have hlen:l.length=g.es.length:=by have:=congrArg List.length l1;simpa using this
 have v:=AEC (vG .sh g) .sh l
 have st:=AAp (vG .sh g) (l:=l) (by omega)
 have hsl:=KG l
 have hnd:(g.es.map fun e=>(e.fr,e.to)).Nodup↔((CZ l).map KU).Nodup:=by
  rw[←l2];exact(((Lh l).map KU).nodup_iff).symm
 have so:=MO l
 rw[F8,if_pos ⟨by omega,by omega,by omega,h4⟩]
 have e:(if(g.es.map fun e=>(e.fr,e.to)).Nodup then(0:Int)else 51)=(if((CZ l).map KU).Nodup then(0:Int)else 51):=by
  by_cases hh:(g.es.map fun e=>(e.fr,e.to)).Nodup
  ·rw[if_pos hh,if_pos (hnd.1 hh)]
  ·rw[if_neg hh,if_neg (fun k=>hh (hnd.2 k))]
 rw[e]
 have rest:QV (GR .sh (CZ l)) (.int .i64 1) [vG .sh g,GR .sh l]=some (.int .i64 (if((CZ l).map KU).Nodup then(0:Int)else 51),[]):=by
  cases hs:CZ l with
  |nil=>
   rw[Nc]
   simp(disch:=first|assumption|omega|(with_reducible rfl)|(simp only[go_sem];done)|(simp only[go_sem];omega)|fail) only[↓reduceIte,↓AO,Nat.reduceAdd,go_sem]
   rfl
  |cons x r=>
   have:=ALv (vG .sh g) (GR .sh l) (l:=x::r) (by rw[←hs];omega) r.length 0 (by simp) (by simp;omega)
   simp only[Nat.zero_add,c1,List.getElem_cons_zero,List.drop_succ_cons,List.drop_zero]at this
   rw[this]
   rw[hs]at so
   have ai:=ADI r x so
   by_cases hh:((x::r).map KU).Nodup
   ·rw[if_pos hh,if_neg (by rw[ai.2 hh];simp)]
   ·rw[if_neg hh,if_pos (by cases ha:Yw x r with
     |true=>rfl
     |false=>exact absurd (ai.1 ha) hh)]
 have l3:l.length≤512:=by omega
 simp only[vG,←l1]at an v st rest⊢
 rw[QW]
 generalize CZ l=s at*
 simp(disch:=first|assumption|omega|(with_reducible rfl)|(simp only[go_sem];done)|(simp only[go_sem];omega)|fail) only[↓reduceIte,↓AO,Nat.reduceAdd,go_sem,an,h4,v,st,rest]
end
section
open Go AM
theorem ATO (a b:List UInt8):DR P 195 2 [(0,bL .own a),(1,bL .own b)]=some (.lst 117 .own (parts [(.sh,a),(.sh,b)])):=by
 simp[DR,RF,CY,tyB,cp,AHO,bL,List.replicate,AU,V.clean,D8,AP,V.norm,V.weak,parts,part,Ea,Bc]
theorem ATP (f g:Fl) (a b:List UInt8):flat [(f,a),(g,b)]=a++b:=by simp[flat]
theorem ALx {s:List UInt8} (hs:s.length<2147000000):Cl 115 [.str s] []=some (Bh (Ye (0::s)),[]):=by
 rw[AKk,ACH,ACI,ALT]
 refine(AA (AHn 0 (by omega)) _).trans<|(AHy (by omega) _).trans<|(AA (ATO _ _) _).trans ?_
 obtain⟨f',L',e1,e2,e3⟩:=Oj ([]++[Bh (List.replicate 32 0)]) .own [(.sh,[UInt8.ofNat 0]),(.sh,s)]
 have er:AB ([]++[Bh (List.replicate 32 0)]) [.lst 117 .own (parts [(.sh,[UInt8.ofNat 0]),(.sh,s)])]=[.lst 117 f' (parts L')]:=by simp only[AB,e1]
 rw[er]
 rw[ATP]at e2
 refine(AA (Yg L' (by rw[e3];simp) f' (by rw[e2];simp;omega) (by rw[e2];simp)) _).trans ?_
 refine(AA (EM (P:=P) (h:=[]++[Bh (List.replicate 32 0)]) (id:=0) rfl (ACz _) (AC0 _ _)) _).trans ?_
 refine(AA (CG (h:=[Bh (Ye (flat L'))]) (id:=0) (v:=Bh (Ye (flat L'))) (Eg rfl)) _).trans ?_
 rw[Ws,e2];rfl
end
section
open Go AM
theorem AQO (a b c:List UInt8) (id:Nat) (h:List V):DR P 195 3 [(0,bL .own a),(1,bL .own b),(2,.win id [] 0 32 5)]=some (.lst 117 .lent [bL .sh a,bL .sh b,.win id [] 0 32 5]):=by
 simp[DR,RF,CY,tyB,cp,AHO,bL,List.replicate,AU,V.clean,D8,AP,V.norm,V.weak,Ea,Bc]
theorem AVk {id:Nat}:KZ P 45 (.ref id [] 45) none none none=some (.win id [] 0 32 5):=by
 simp[KZ,APV,CQ]
theorem XB {h:List V} {id:Nat} {c:List UInt8} (hh:h[id]?=some (Bh c)) (hc:c.length=32):V.reify h (.win id [] 0 32 5)=bL .lent c:=by
 have:Ai h (.win id [] 0 32 5)=some (bytesOf c):=by
  simp[Ai,rd,hh,V.at,V.items,Bh]
  rw[List.take_of_length_le (by rw[Aq];omega)]
 simp only[V.reify,this,DN,Gu,if_true,bL]
def AID (n:Nat) (t:List UInt8):List UInt8:=Ye ([3]++Ap n++t)
theorem ALy {n:Nat} {t:List UInt8} (hn:n<1000000000) (ht:t.length=32):Cl 113 [iv n,Bh t] []=some (Bh (AID n t),[]):=by
 have c1:(Bc P 45 (Bh t)&&V.under (List.length ([]:List V)) (Bh t))=true:=by rw[ACz,AC0];rfl
 have nb:=Aj 10 n
 rw[AKi,AB5,if_pos c1,ALT,AB6]
 refine(AA (IX _) _).trans ?_
 rw[AB7]
 refine(AC4 (by omega) (by omega) _).trans ?_
 have e1:AP [Di (([]++[Bh t])++[Bh (List.replicate 32 0)]:List V).length,V.int .u64 ((n:Int).toNat:Int)]=[Di 2,V.int .u64 (n:Int)]:=rfl
 rw[e1]
 refine(AA (EH (id:=2) (h:=(([]++[Bh t])++[Bh (List.replicate 32 0)])++[BN .nil []]) rfl (Or.inr rfl) (by omega) (by simp)) _).trans ?_
 rw[AB8]
 have eh:((([]++[Bh t])++[Bh (List.replicate 32 0)])++[BN .nil []]:List V).set 2 (BN .own ([]++Ap n))=[Bh t,Bh (List.replicate 32 0),BN .own (Ap n)]:=rfl
 rw[eh]
 refine(AA (AHn 3 (by omega)) _).trans ?_
 refine(AA (Gx (id:=2) (h:=[Bh t,Bh (List.replicate 32 0),BN .own (Ap n)]) rfl) _).trans ?_
 refine(AHy (by rw[Ap];omega) _).trans<|(AA AVk _).trans<|(AA (AQO [UInt8.ofNat 3] (Ap n) [] 0 []) _).trans ?_
 have er:AB [Bh t,Bh (List.replicate 32 0),BN .own (Ap n)] [.lst 117 .lent [bL .sh [UInt8.ofNat 3],bL .sh (Ap n),.win 0 [] 0 32 5]]=[.lst 117 .lent (parts [(.sh,[UInt8.ofNat 3]),(.sh,Ap n),(.lent,t)])]:=by
  have w:=XB (h:=[Bh t,Bh (List.replicate 32 0),BN .own (Ap n)]) (id:=0) (c:=t) rfl ht
  show[V.lst 117 .lent [V.reify _ (bL .sh [UInt8.ofNat 3]),V.reify _ (bL .sh (Ap n)),V.reify [Bh t,Bh (List.replicate 32 0),BN .own (Ap n)] (.win 0 [] 0 32 5)]]=_
  rw[w];rfl
 rw[er]
 have ef:flat [(.sh,[UInt8.ofNat 3]),(.sh,Ap n),(.lent,t)]=[3]++Ap n++t:=by simp[flat]
 refine(AA (Yg _ (by simp) .lent (by rw[ef];simp only[List.length_append,Ap];simp;omega) (by rw[ef];simp)) _).trans ?_
 rw[ef]
 refine(AA (EM (P:=P) (h:=[Bh t,Bh (List.replicate 32 0),BN .own (Ap n)]) (id:=1) rfl (ACz _) (AC0 _ _)) _).trans ?_
 refine(AA (CG (h:=[Bh t,Bh (Ye ([3]++Ap n++t)),BN .own (Ap n)]) (id:=1) (v:=Bh (Ye ([3]++Ap n++t))) (Eg rfl)) _).trans ?_
 exact Ws _ _ _
end
section
open Go AM
@[go_sem] theorem Rk (l:List UInt8):(Bh l).pl=true:=UR l
@[go_sem] theorem XC (l:List UInt8):tyG 44 (Bh l)=true:=RJ ..
theorem N7:V.agg 44 (List.replicate 32 (V.int .u8 0))=Bh (List.replicate 32 0):=rfl
@[go_sem] theorem AIE (l:List (List UInt8)):Iu (l.map V.str)=true:=DC (fun _=>rfl) l
@[go_sem] theorem ATQ (l:List (List UInt8)):(l.map V.str).all tyS=true:=all_map (fun _=>rfl) l
@[go_sem] theorem AVl (l:List UInt8):Iu (bytesOf l)=true:=UR l
def Rl (n:Nat):Nat→Nat→Nat
 |0,k=>k
 |f+1,k=>if 2*k<n then Rl n f (2*k)else k
def Rn (n:Nat):Nat:=Rl n 62 1
theorem Yx (n:Nat):∀(f k:Nat),0<k→k<n→0<Rl n f k∧Rl n f k<n
 |0,k,h,h2=>⟨h,h2⟩
 |f+1,k,h,h2=>by
  rw[Rl];split
  ·exact Yx n f (2*k) (by omega) (by omega)
  ·exact⟨h,h2⟩
theorem AVm {n k f:Nat} (h:n<k*2^(f+1)):n<2*k*2^f:=by
 rw[Nat.pow_succ]at h
 have e:k*(2^f*2)=2*k*2^f:=by rw[Nat.mul_comm 2 k,Nat.mul_assoc,Nat.mul_comm (2^f)]
 omega
theorem ALz (n:Nat) (hn:n<2^61):∀(f k:Nat),0<k→k≤n→n<k*2^f→V6 (iv n) (iv k)=some (iv (Rl n f k),[]):=by
 intro f
 induction f with
 |zero=>intro k h h2 h3;omega
 |succ f ih=>
  intro k h h2 h3
  rw[AD1,Rl]
  have h2':(2:Int)*(k:Int)=((2*k:Nat):Int):=by omega
  by_cases hk:2*k<n
  ·rw[if_pos hk]
   refine(AA (ASf (by omega) (by omega)) _).trans<|(Hl (by omega) _).trans ?_
   rw[BU]
   refine(AA (ASg (by omega) (by omega)) _).trans ?_
   rw[show(k:Int)*2=((2*k:Nat):Int)by omega]
   exact ih (2*k) (by omega) (by omega) (AVm h3)
  ·rw[if_neg hk]
   refine(AA (ASf (by omega) (by omega)) _).trans<|(IC (by omega) _).trans ?_
   rfl
theorem AL0 {n:Nat} (h2:2≤n) (hn:n<2^61):Cl 86 [iv n] []=some (iv (Rn n),[]):=by
 rw[APK]
 refine(IC (by omega) _).trans ?_
 rw[BV]
 exact ALz n hn 62 1 (by omega) (by omega) (by omega)
def ANi (a b:List UInt8):List UInt8:=Ye ([1]++a++b)
theorem AL1 {a b:List UInt8} (ha:a.length=32) (hb:b.length=32):Cl 116 [Bh a,Bh b] []=some (Bh (ANi a b),[]):=by
 have er:V.reify [Bh a,Bh b,Bh (List.replicate 32 0)] (.lst 117 .lent [bL .sh [1],.win 0 [] 0 32 5,.win 1 [] 0 32 5])= .lst 117 .lent (parts [(.sh,[1]),(.lent,a),(.lent,b)]):=by
  have w:=XB (h:=[Bh a,Bh b,Bh (List.replicate 32 0)]) (id:=0) (c:=a) rfl ha
  have w':=XB (h:=[Bh a,Bh b,Bh (List.replicate 32 0)]) (id:=1) (c:=b) rfl hb
  show V.lst 117 .lent [V.reify _ (bL .sh [1]),V.reify [Bh a,Bh b,Bh (List.replicate 32 0)] (.win 0 [] 0 32 5),V.reify [Bh a,Bh b,Bh (List.replicate 32 0)] (.win 1 [] 0 32 5)]=_
  rw[w,w'];rfl
 have ef:flat [(.sh,[1]),(.lent,a),(.lent,b)]=[1]++a++b:=by simp[flat]
 rw[AKl,N7]
 simp(disch:=first|assumption|omega|(with_reducible rfl)|(simp only[go_sem];done)|(simp only[go_sem];omega)|fail) only[↓reduceIte,↓AO,Nat.reduceAdd,go_sem]
 refine(AA (show NU 117 true (some [.lst 5 .sh [.int .u8 1],(V.win 0 [] 0 32 5).weak,(V.win 1 [] 0 32 5).weak])=some (.lst 117 .lent [bL .sh [1],.win 0 [] 0 32 5,.win 1 [] 0 32 5])from rfl) _).trans ?_
 rw[er]
 refine(AA (Yg _ (by simp) .lent (by rw[ef];simp;omega) (by rw[ef];simp)) _).trans ?_
 rw[ef]
 simp(disch:=first|assumption|omega|(with_reducible rfl)|(simp only[go_sem];done)|(simp only[go_sem];omega)|fail) only[↓reduceIte,↓AO,Nat.reduceAdd,go_sem]
 rfl
def Yy:Nat→List (List UInt8)→List UInt8
 |0,_=>Ye [2]
 |f+1,l=>if l.length=0 then Ye [2]else if l.length=1 then Ye (0::l.getD 0 [])else ANi (Yy f (l.take (Rn l.length))) (Yy f (l.drop (Rn l.length)))
theorem Ro:∀(f:Nat) (l:List (List UInt8)),(Yy f l).length=32
 |0,_=>Px _
 |f+1,l=>by rw[Yy];split;·exact Px _
            split<;>exact Px _
def Short (l:List (List UInt8)):Prop:=∀s∈l,s.length<2147000000
theorem Short.take {l:List (List UInt8)} (h:Short l) (n:Nat):Short (l.take n):=fun s hs=>h s (List.mem_of_mem_take hs)
theorem Short.drop {l:List (List UInt8)} (h:Short l) (n:Nat):Short (l.drop n):=fun s hs=>h s (List.mem_of_mem_drop hs)
theorem of0 {x:Nat} (hx:x<256) {g:Fl}:Cl 114 [.lst 117 g [.lst 5 .sh [.int .u8 (x:Int)]]] []=some (Bh (Ye [UInt8.ofNat x]),[]):=by
 have e:[V.lst 5 .sh [.int .u8 (x:Int)]]=parts [(.sh,[UInt8.ofNat x])]:=by
  simp only[parts,part,List.map_cons,List.map_nil,bL,bytesOf]
  rw[UInt8.toNat_ofNat',Nat.mod_eq_of_lt (by omega)]
 rw[e,Yg _ (by simp) g (by simp[flat]) (by simp[flat])]
 simp[flat]
theorem AIF {n:Nat} (h:2≤n):0<Rn n∧Rn n<n:=Yx n 62 1 (by omega) (by omega)
theorem AQP:∀(f:Nat) (l:List (List UInt8)) (g:Fl),l.length≤f→f<2000000000→Short l→Cl 87 [.lst 9 g (l.map V.str)] []=some (Bh (Yy f l),[]):=by
 intro f
 induction f with
 |zero=>
  intro l g hl _ _
  have:l=[]:=List.eq_nil_of_length_eq_zero (by omega)
  subst this
  rw[AHA,N7,Yy]
  simp(disch:=first|assumption|omega|(with_reducible rfl)|(simp only[go_sem];done)|(simp only[go_sem];omega)|fail) only[↓reduceIte,↓AO,Nat.reduceAdd,go_sem,List.map_nil]
  refine(AA (of0 (x:=2) (by omega)) _).trans ?_
  simp(disch:=first|assumption|omega|(with_reducible rfl)|(simp only[go_sem];done)|(simp only[go_sem];omega)|fail) only[↓reduceIte,↓AO,Nat.reduceAdd,go_sem]
  rfl
 |succ f ih=>
  intro l g hl hf hs
  rw[AHA,N7,Yy]
  by_cases h0:l.length=0
  ·simp(disch:=first|assumption|omega|(with_reducible rfl)|(simp only[go_sem];done)|(simp only[go_sem];omega)|fail) only[↓reduceIte,↓AO,Nat.reduceAdd,go_sem,h0]
   refine(AA (of0 (x:=2) (by omega)) _).trans ?_
   simp(disch:=first|assumption|omega|(with_reducible rfl)|(simp only[go_sem];done)|(simp only[go_sem];omega)|fail) only[↓reduceIte,↓AO,Nat.reduceAdd,go_sem]
   rfl
  by_cases h1:l.length=1
  ·have hg:l[0]?=some (l.getD 0 []):=by rw[List.getD_eq_getElem?_getD,List.getElem?_eq_getElem (by omega)];rfl
   have hm:(l.getD 0 []).length<2147000000:=hs _ (List.mem_of_getElem? hg)
   simp(disch:=first|assumption|omega|(with_reducible rfl)|(simp only[go_sem];done)|(simp only[go_sem];omega)|fail) only[↓reduceIte,↓AO,Nat.reduceAdd,go_sem,h0,h1,List.getElem?_map,hg,ALx hm]
   rfl
  have hh:=AIF (n:=l.length) (by omega)
  have hx:∀g,Cl 87 [.lst 9 g ((l.take (Rn l.length)).map V.str)] []=_:=fun g=>ih _ g (by simp;omega) (by omega) (hs.take _)
  have hy:∀g,Cl 87 [.lst 9 g ((l.drop (Rn l.length)).map V.str)] []=_:=fun g=>ih _ g (by simp;omega) (by omega) (hs.drop _)
  simp(disch:=first|assumption|omega|(with_reducible rfl)|(simp only[go_sem];done)|(simp only[go_sem];omega)|fail) only[↓reduceIte,↓AO,Nat.reduceAdd,go_sem,h0,h1,AL0 (n:=l.length) (by omega) (by omega),←List.map_take,←List.map_drop,hx,hy,AL1 (Ro _ _) (Ro _ _)]
def AIH (l:List (List UInt8)):List UInt8:=AID l.length (Yy l.length l)
theorem N8 (n:Nat) (t:List UInt8):(AID n t).length=32:=Px _
theorem ADJ {g:Fl} {l:List (List UInt8)} (hl:l.length<1000000000) (hs:Short l):Cl 81 [.lst 9 g (l.map V.str)] []=some (Bh (AIH l),[]):=by
 have h:=fun g=>AQP l.length l g (Nat.le_refl _) (by omega) hs
 rw[APG,N7]
 simp(disch:=first|assumption|omega|(with_reducible rfl)|(simp only[go_sem];done)|(simp only[go_sem];omega)|fail) only[↓reduceIte,↓AO,Nat.reduceAdd,go_sem,h,ALy (n:=l.length) hl (Ro _ _)]
 rfl
end
section
open Go AM
theorem ATR {h:List V} {y:V} {ys:List V} {ty:V→Bool} {xs:List V} (hy:Ai h y=some ys) (hc:AU ys=true) (ht:ys.all ty=true) (hl:xs.length+ys.length≤2147483648) {e:TypeId} {hs:Bool}:
 FU e ty hs h (.lst e .own xs) y=some (.lst e .own (xs++nlB hs ys)):=by simp[FU,hy,hc,ht,EI,hl]
def z32:List UInt8:=List.replicate 32 0
theorem P9:V.agg 44 (List.replicate 32 (V.int .u8 0))=Bh z32:=rfl
theorem XD:∀a b:List UInt8,a.length=b.length→MB (bytesOf a) (bytesOf b)=some (decide (a=b))
 |[],[],_=>rfl
 |x::a,y::b,h=>by
  have e:∀(z:UInt8) (l:List UInt8),bytesOf (z::l)= .int .u8 (z.toNat:Int)::bytesOf l:=fun _ _=>rfl
  rw[e,e]
  simp only[MB,KX,if_true,Option.bind_some]
  by_cases hxy:x=y
  ·subst hxy
   simp[XD a b (by simpa using h)]
  ·have:¬(x.toNat:Int)=(y.toNat:Int):=fun h=>hxy (UInt8.toNat_inj.1 (by omega))
   simp[this,hxy]
 |[],_::_,h=>by simp at h
 |_::_,[],h=>by simp at h
@[go_sem] theorem eqA {a b:List UInt8} (ha:a.length=32) (hb:b.length=32):Tm (tyG 44) .eql (Bh a) (Bh b)=some (.bool (decide (a=b))):=by
  have h:KX (Bh a) (Bh b)=some (decide (a=b)):=by simp only[Bh,KX,if_true,XD a b (by omega)]
  simp only[Tm,XC,Bool.and_self,if_true,h,Option.map_some]
@[go_sem] theorem neA {a b:List UInt8} (ha:a.length=32) (hb:b.length=32):Tm (tyG 44) .neq (Bh a) (Bh b)=some (.bool (!decide (a=b))):=by
  have h:KX (Bh a) (Bh b)=some (decide (a=b)):=by simp only[Bh,KX,if_true,XD a b (by omega)]
  simp only[Tm,XC,Bool.and_self,if_true,h,Option.map_some]
@[go_sem] theorem ATS (l:List (List UInt8)):Iu (l.map Bh)=true:=DC Rk l
@[go_sem] theorem ATT (l:List (List UInt8)):(l.map Bh).all (tyG 44)=true:=all_map XC l
theorem AQQ {l:List (List UInt8)} {i:Nat} (h:i<l.length):(l.map Bh)[i]?=some (Bh l[i]):=by simp[h]
theorem Rq {h:List V} {id:Nat} {l x:List UInt8} (hh:h[id]?=some (BN .own l)) (hx:x.length=32) (hl:l.length≤2000000000):Cl 78 [Di id,Bh x] h=some (.tup [],h.set id (BN .own (l++x))):=by
 have hid:=IB hh
 have h1:(h++[Bh x])[id]?=some (BN .own l):=Ir _ hh
 have ht:=fun(K:V×List V→Rv)=>Pz (h:=h++[Bh x]) (id:=id) (f:= .own) (l:=l) h1 K
 rw[APD,Di]
 simp(disch:=first|assumption|omega|(with_reducible rfl)|(simp only[go_sem];done)|(simp only[go_sem];omega)|fail) only[↓reduceIte,↓AO,Nat.reduceAdd,go_sem]
 refine(ht _).trans ?_
 have hs:∀v w:V,(h++[Bh x]).set id v=h.set id v++[Bh x]:=fun v w=>Pm _ _ hid
 have hc:Ai ((h++[Bh x]).set id (BN .sh l)) (.win h.length [] 0 32 5)=some (bytesOf x):=by
  rw[hs _ (V.bool true)]
  have:(h.set id (BN .sh l)++[Bh x])[h.length]?=some (Bh x):=by
   have:=DW (h.set id (BN .sh l)) (Bh x)
   rwa [List.length_set]at this
  simp only[Ai,rd]
  rw[this]
  simp[V.at,V.items,Bh]
  rw[List.take_of_length_le (by rw[Aq];omega)]
 have ap:FU 5 (tyI .u8) false ((h++[Bh x]).set id (BN .sh l)) (bL .own l) (.win h.length [] 0 32 5)=some (bL .own (l++x)):=by
  rw[bL,ATR hc (DN x) (by simp[bytesOf,tyI]) (by rw[Aq,Aq];omega)]
  rw[ASh,←Hu];rfl
 refine(AA ap _).trans ?_
 have hb:((h++[Bh x]).set id (BN .sh l))[id]?=some (BN .sh l):=GN _ h1
 refine(AA (APj (i:=0) hb (by simp) rfl rfl 117) _).trans ?_
 rw[List.set_set,hs _ (.bool true)]
 show some (V.tup [],List.take h.length (h.set id _++[Bh x]))=_
 rw[take_set];rfl
theorem Yz (a:V):Cl 24 [] [a]=some (Di 1,[a,BN .nil []]):=IX [a]
theorem Jb {a:V} {f:Fl} {l:List UInt8} {x:Int} (hf:OK f) (h0:0≤x) (h1:x<18446744073709551616) (hl:l.length≤2000000000):Cl 25 [Di 1,.int .u64 x] [a,BN f l]=some (.tup [],[a,BN .own (l++Ap x.toNat)]):=by
 have:=EH (h:=[a,BN f l]) (id:=1) (n:=x.toNat) rfl hf (by omega) (by omega)
 rw[show((x.toNat:Nat):Int)=x by omega]at this
 exact this
theorem AED {a:V} {l x:List UInt8} (hx:x.length=32) (hl:l.length≤2000000000):Cl 78 [Di 1,Bh x] [a,BN .own l]=some (.tup [],[a,BN .own (l++x)]):=Rq (h:=[a,BN .own l]) (id:=1) rfl hx hl
theorem AAq {a b:V} {l x:List UInt8} (hx:x.length=32) (hl:l.length≤2000000000):Cl 78 [Di 1,Bh x] [a,BN .own l,b]=some (.tup [],[a,BN .own (l++x),b]):=Rq (h:=[a,BN .own l,b]) (id:=1) rfl hx hl
theorem Ut {a:V} {f:Fl} {l:List UInt8}:Cl 28 [Di 1] [a,BN f l]=some (.str l,[a,BN f l]):=Gx (h:=[a,BN f l]) (id:=1) rfl
@[go_sem] theorem ARi (n:Nat):V.norm (Di n)=Di n:=(rfl)
@[go_sem] theorem AQR {n m:Nat} (h:n<m):V.under m (Di n)=true:=UW h ..
theorem Rt:OK .own:=Or.inl rfl
theorem AII:OK .nil:=Or.inr rfl
@[go_sem] theorem ATU (n:Nat):V.norm (LZ n)=LZ n:=(rfl)
@[go_sem] theorem ARj {n m:Nat} (h:n<m):V.under m (LZ n)=true:=UW h ..
@[go_sem] theorem AVn (s:List UInt8) (e:Nat):(Dw s e).pl=true:=(rfl)
section
variable {a b c:V} {s:List UInt8} {e:Nat}
end
@[go_sem] theorem AW7 {s:List UInt8} (h:1≤s.length) (k:IntKind):slT (.str s) (some (.int k 1)) none=some (.str (s.drop 1)):=APl h k
end
section
open Go AM
def XE:List (List UInt8):=[[109,97,120],[108,97,98,101,108],[115,115,115,112],[98,102,115],[100,101,103,114,101,101],[114,97,110,107],[119,97,108,107,115]]
def Fb (t:List UInt8):Bool:=XE.any fun s=>decide (t=s)
theorem AL2 (t:List UInt8) {ls:List (List UInt8)} (hl:ls.length<1000000) (f:Fl):∀(m i:Nat),i+m=ls.length→
 PV (.lst 9 f (ls.map .str)) (.str t) (.int .i64 (ls.length:Int)) (.int .i64 (i:Int))=some (.int .i64 (Nz (fun s=>decide (t=s)) i (ls.drop i)),[]):=by
 intro m
 induction m with
 |zero=>
  intro i hi
  rw[List.drop_eq_nil_of_le (by omega),Ql]
  simp(disch:=first|assumption|omega|(with_reducible rfl)|(simp only[go_sem];done)|(simp only[go_sem];omega)|fail) only[↓reduceIte,↓AO,Nat.reduceAdd,go_sem,Nz]
 |succ m ih=>
  intro i hi
  have h:i<ls.length:=by omega
  have:=ih (i+1) (by omega)
  have ha:(ls.map V.str)[i]?=some (.str ls[i]):=by simp[h]
  rw[List.drop_eq_getElem_cons h,Nz,Ql]
  by_cases ho:t=ls[i]
  ·rw[if_pos (decide_eq_true ho)]
   simp(disch:=first|assumption|omega|(with_reducible rfl)|(simp only[go_sem];done)|(simp only[go_sem];omega)|fail) only[↓reduceIte,↓AO,Nat.reduceAdd,go_sem,ha]
  ·rw[if_neg (by simp[ho]),←this]
   simp(disch:=first|assumption|omega|(with_reducible rfl)|(simp only[go_sem];done)|(simp only[go_sem];omega)|fail) only[↓reduceIte,↓AO,Nat.reduceAdd,go_sem,ha]
theorem MP (t:List UInt8):Cl 54 [.str t] []=some (.bool (Fb t),[]):=by
 have h:=AL2 t (ls:=XE) (by decide) .sh XE.length 0 (by omega)
 simp only[c0,List.drop_zero]at h
 have h2:Cl 99 [.lst 9 .sh (XE.map .str),.str t] []=some (.bool (Fb t),[]):=by
  have ix:Cl 125 [.lst 9 .sh (XE.map .str),.str t] []=some (.int .i64 (Nz (fun s=>decide (t=s)) 0 XE),[]):=by
   rw[←h,AKs]
   simp(disch:=first|assumption|omega|(with_reducible rfl)|(simp only[go_sem];done)|(simp only[go_sem];omega)|fail) only[↓reduceIte,↓AO,Nat.reduceAdd,go_sem]
  rw[Fb,←ADG _ XE 0,APP]
  simp(disch:=first|assumption|omega|(with_reducible rfl)|(simp only[go_sem];done)|(simp only[go_sem];omega)|fail) only[↓reduceIte,↓AO,Nat.reduceAdd,go_sem,ix]
 simp only[XE,List.map_cons,List.map_nil]at h2
 rw[AOs]
 simp(disch:=first|assumption|omega|(with_reducible rfl)|(simp only[go_sem];done)|(simp only[go_sem];omega)|fail) only[↓reduceIte,↓AO,Nat.reduceAdd,go_sem,h2]
theorem AEE (t:List UInt8):Cl 52 [.str t] []=some (.bool (Fb t),[]):=by
 rw[AOr]
 repeat' first|rfl|refine AAl (fun _=> ?_) (fun _=> ?_)|refine AAm (fun _=> ?_) (fun _=> ?_)|simp(disch:=first|assumption|omega|(with_reducible rfl)|(simp only[go_sem];done)|(simp only[go_sem];omega)|fail) only[↓reduceIte,↓AO,Nat.reduceAdd,go_sem]
 all_goals simp_all [Fb,XE]
structure Job where
 tag:List UInt8
 src:Int
 steps:Int
abbrev vJ (j:Job):V:= .agg 25 [.str j.tag,.int .i64 j.src,.int .i64 j.steps]
def Dz (g:Grf) (j:Job):Bool:=decide (F8 g=0∧Fb j.tag=true∧0≤j.src∧j.src<g.n∧1≤j.steps∧j.steps≤64)
theorem KH {g:Grf} (hl:g.es.length<1000000) (j:Job):Cl 20 [vG .sh g,vJ j] []=some (.int .i64 (if Dz g j=true then 0 else 70),[]):=by
 have hg:=Us hl
 rw[AOY]
 repeat' first|rfl|refine AAl (fun _=> ?_) (fun _=> ?_)|refine AAm (fun _=> ?_) (fun _=> ?_)|simp(disch:=first|assumption|omega|(with_reducible rfl)|(simp only[go_sem];done)|(simp only[go_sem];omega)|fail) only[↓reduceIte,↓AO,Nat.reduceAdd,go_sem,hg,MP]
 all_goals (rw[Dz];simp_all)
 all_goals omega
def firstX (j:Job) (v:Int):Vtx:=
 if Fb j.tag=true then⟨v,if j.tag=[109,97,120]then(37*v+11).tmod 64 else if j.tag=[108,97,98,101,108]then v else if j.tag=[115,115,115,112]∨j.tag=[98,102,115]then(if v=j.src then 0 else -1)else if j.tag=[114,97,110,107]then 65536 else if j.tag=[119,97,108,107,115]then 1 else 0,true,false,0⟩else⟨0,0,false,false,0⟩
theorem ATV (a:Int):AL .rem (.int .i64 a) (.int .i64 64)=some (.int .i64 (a.tmod 64)):=MH _ _ _ (by omega)
theorem Ru (j:Job) {v:Int} (h1:0≤v) (h2:v<1000):Cl 23 [vJ j,.int .i64 v] []=some (A7 (firstX j v),[]):=by
 rw[AOa]
 repeat' first|rfl|refine AAl (fun _=> ?_) (fun _=> ?_)|refine AAm (fun _=> ?_) (fun _=> ?_)|simp(disch:=first|assumption|omega|(with_reducible rfl)|(simp only[go_sem];done)|(simp only[go_sem];omega)|fail) only[↓reduceIte,↓AO,Nat.reduceAdd,go_sem,MP,ATV]
 all_goals simp_all [firstX,A7]
end
section
open Go AM
def Bz (n:Int):Bool:=decide (1125899906842624<n)||decide (n< -1125899906842624)
theorem Jc (n:Int):Cl 101 [.int .i64 n] []=some (.bool (Bz n),[]):=by
 rw[AKY,Bz]
 by_cases h:1125899906842624<n
 ·simp(disch:=first|assumption|omega|(with_reducible rfl)|(simp only[go_sem];done)|(simp only[go_sem];omega)|fail) only[↓reduceIte,↓AO,Nat.reduceAdd,go_sem]
  rw[decide_eq_true h];rfl
 ·simp(disch:=first|assumption|omega|(with_reducible rfl)|(simp only[go_sem];done)|(simp only[go_sem];omega)|fail) only[↓reduceIte,↓AO,Nat.reduceAdd,go_sem]
  rw[decide_eq_false h];rfl
def Em (x:Vtx):Bool:= !(decide (x.id<0)||decide (64≤x.id)||Bz x.val||Bz x.inn||(!x.has&&decide (x.inn≠0)))
theorem Uu (x:Vtx):Cl 62 [A7 x] []=some (.int .i64 (if Em x=true then 0 else 100),[]):=by
 by_cases h1:x.id<0
 ·rw[show(if Em x=true then(0:Int)else 100)=100 from if_neg (by simp[Em,h1])]
  rw[LX]
  simp only[A7]
  simp(disch:=first|assumption|omega|(with_reducible rfl)|(simp only[go_sem];done)|(simp only[go_sem];omega)|fail) only[↓reduceIte,↓AO,Nat.reduceAdd,go_sem]
 by_cases h2:64≤x.id
 ·rw[show(if Em x=true then(0:Int)else 100)=100 from if_neg (by simp[Em,h2])]
  rw[LX]
  simp only[A7]
  simp(disch:=first|assumption|omega|(with_reducible rfl)|(simp only[go_sem];done)|(simp only[go_sem];omega)|fail) only[↓reduceIte,↓AO,Nat.reduceAdd,go_sem]
 by_cases h3:Bz x.val=true
 ·rw[show(if Em x=true then(0:Int)else 100)=100 from if_neg (by simp[Em,h3])]
  rw[LX]
  simp only[A7]
  simp(disch:=first|assumption|omega|(with_reducible rfl)|(simp only[go_sem];done)|(simp only[go_sem];omega)|fail) only[↓reduceIte,↓AO,Nat.reduceAdd,go_sem,Jc,h3]
 by_cases h4:Bz x.inn=true
 ·rw[show(if Em x=true then(0:Int)else 100)=100 from if_neg (by simp[Em,h4])]
  rw[LX]
  simp only[A7]
  simp(disch:=first|assumption|omega|(with_reducible rfl)|(simp only[go_sem];done)|(simp only[go_sem];omega)|fail) only[↓reduceIte,↓AO,Nat.reduceAdd,go_sem,Jc,h3,h4]
 simp only[Bool.not_eq_true]at h3 h4
 cases h5:x.has
 ·by_cases h6:x.inn=0
  ·rw[show(if Em x=true then(0:Int)else 100)=0 from if_pos (by simp only[Em,h3,h4,h5,h6,decide_eq_false h1,decide_eq_false h2];rfl)]
   rw[LX]
   simp only[A7]
   simp(disch:=first|assumption|omega|(with_reducible rfl)|(simp only[go_sem];done)|(simp only[go_sem];omega)|fail) only[↓reduceIte,↓AO,Nat.reduceAdd,go_sem,Jc,h3,h4,h5]
  ·rw[show(if Em x=true then(0:Int)else 100)=100 from if_neg (by simp[Em,h5,h6])]
   rw[LX]
   simp only[A7]
   simp(disch:=first|assumption|omega|(with_reducible rfl)|(simp only[go_sem];done)|(simp only[go_sem];omega)|fail) only[↓reduceIte,↓AO,Nat.reduceAdd,go_sem,Jc,h3,h4,h5]
 ·rw[show(if Em x=true then(0:Int)else 100)=0 from if_pos (by simp[Em,h1,h2,h3,h4,h5])]
  rw[LX]
  simp only[A7]
  simp(disch:=first|assumption|omega|(with_reducible rfl)|(simp only[go_sem];done)|(simp only[go_sem];omega)|fail) only[↓reduceIte,↓AO,Nat.reduceAdd,go_sem,Jc,h3,h4,h5]
def Ho (b:Bool):Nat:=if b=true then 1 else 0
theorem AQS (b:Bool):Cl 84 [.bool b] []=some (.int .u64 (Ho b:Int),[]):=by
 rw[APJ]
 cases b<;>rfl
def vtxB (x:Vtx):List UInt8:=if Em x=true then Ap x.id.toNat++Ap (Nw x.val)++Ap (Ho x.act)++Ap (Ho x.has)++Ap (Nw x.inn)else[]
theorem Y0 {a:V} {f:Fl} {l:List UInt8} {n:Int} (hf:OK f) (h1:I64 n) (hl:l.length≤2000000000):Cl 83 [Di 1,.int .i64 n] [a,BN f l]=some (.tup [],[a,BN .own (l++Ap (Nw n))]):=Ul (h:=[a,BN f l]) (id:=1) rfl hf h1.1 h1.2 (by omega)
theorem ADK (b:Bool):(Ho b:Int)<18446744073709551616:=by cases b<;>decide
theorem MQ (x:Vtx):(vtxB x).length≤50:=by
 have a:=Aj 10 x.id.toNat;have b:=Aj 10 (Nw x.val);have c:=Aj 10 (Nw x.inn)
 have d:=Aj 10 (Ho x.act);have e:=Aj 10 (Ho x.has)
 simp only[vtxB];split
 ·simp only[List.length_append,Ap];omega
 ·simp
theorem AL3 {x:Vtx} (hx:GZ x):Cl 47 [A7 x] []=some (.str (vtxB x),[]):=by
 obtain⟨x1,x2,x3⟩:=hx
 have hc:=Uu x
 by_cases h:Em x=true
 ·have h0:0≤x.id:=by simp only[Em,Bool.not_eq_true',Bool.or_eq_false_iff,decide_eq_false_iff_not]at h;omega
  have hlt:x.id<18446744073709551616:=by have:=x1.2;omega
  rw[if_pos h]at hc
  rw[vtxB,if_pos h,AF8]
  have a:=Aj 10 x.id.toNat;have b:=Aj 10 (Nw x.val);have c:=Aj 10 (Nw x.inn)
  have d:=Aj 10 (Ho x.act);have e:=Aj 10 (Ho x.has)
  generalize ha:Ap x.id.toNat=n1
  generalize hb:Ap (Nw x.val)=n2
  generalize hd:Ap (Ho x.act)=n3
  generalize he:Ap (Ho x.has)=n4
  have s1:∀w:V,Cl 25 [Di 1,.int .u64 x.id] [w,BN .nil []]=_:=fun w=>Jb (a:=w) (f:= .nil) (l:=[]) AII h0 hlt (by simp)
  rw[ha,List.nil_append]at s1
  have t1:n1.length≤10:=ha▸a
  have s2:∀w:V,Cl 83 [Di 1,.int .i64 x.val] [w,BN .own n1]=_:=fun w=>Y0 (a:=w) Rt x2 (by omega)
  rw[hb]at s2
  have t2:n2.length≤10:=hb▸b
  have s3:∀w:V,Cl 25 [Di 1,.int .u64 (Ho x.act:Int)] [w,BN .own (n1++n2)]=_:=fun w=>Jb (a:=w) Rt (by omega) (ADK _) (by simp only[List.length_append];omega)
  rw[Int.toNat_natCast,hd]at s3
  have t3:n3.length≤10:=hd▸d
  have s4:∀w:V,Cl 25 [Di 1,.int .u64 (Ho x.has:Int)] [w,BN .own (n1++n2++n3)]=_:=fun w=>Jb (a:=w) Rt (by omega) (ADK _) (by simp only[List.length_append];omega)
  rw[Int.toNat_natCast,he]at s4
  have t4:n4.length≤10:=he▸e
  have s5:∀w:V,Cl 83 [Di 1,.int .i64 x.inn] [w,BN .own (n1++n2++n3++n4)]=_:=fun w=>Y0 (a:=w) Rt x3 (by simp only[List.length_append];omega)
  have hb1:∀b,Cl 84 [.bool b] []=_:=AQS
  simp only[List.append_assoc]at s3 s4 s5⊢
  simp only[A7]at hc⊢
  simp(disch:=first|assumption|omega|(with_reducible rfl)|(simp only[go_sem];done)|(simp only[go_sem];omega)|fail) only[↓reduceIte,↓AO,Nat.reduceAdd,go_sem,hc,Yz,s1,s2,s3,s4,s5,hb1,Ut]
 ·rw[if_neg h]at hc
  rw[vtxB,if_neg h,AF8]
  simp only[A7]at hc⊢
  simp(disch:=first|assumption|omega|(with_reducible rfl)|(simp only[go_sem];done)|(simp only[go_sem];omega)|fail) only[↓reduceIte,↓AO,Nat.reduceAdd,go_sem,hc]
abbrev AIJ (n:Nat):V:= .win 0 [] 0 n 9
abbrev AEF (d:List (List UInt8)):V:= .row 9 (d.map V.str)
theorem AEG (n:Nat) (f:Fl) (l:List Vtx):V.under n (.lst 70 f (l.map A7))=true:=by
 have:=(V.PF (.agg 0 (l.map A7)) (P5 l)).under n
 cases f<;>first|rfl|exact this
theorem AIK {l:List Vtx} (hl:∀x∈l,GZ x) (hn:l.length≤1000000) (f:Fl):∀(n i:Nat) (d:List (List UInt8)),i+n=l.length→d.length=l.length→
 VU (AIJ l.length) (.lst 70 f (l.map A7)) (.int .i64 (l.length:Int)) (.int .i64 (i:Int)) [AEF d]=some (.lst 9 .sh ((d.take i++(l.drop i).map vtxB).map V.str),[]):=by
 intro n
 induction n with
 |zero=>
  intro i d hi hd
  have e1:l.drop i=[]:=List.drop_eq_nil_of_le (by omega)
  rw[e1,List.map_nil,List.append_nil,List.take_of_length_le (by omega),UA]
  have c:Ai [AEF d] (AIJ l.length)=some (d.map V.str):=by
   simp only[Ai,rd,List.getElem?_cons_zero,Option.bind_some,V.at,V.items,List.drop_zero]
   simp only[V.items,Option.map_some,Option.bind_some]
   rw[←hd];exact congrArg some (List.take_of_length_le (by simp))
  have fin:AQ 0 [AEF d] (AIJ l.length)=some (.lst 9 .sh (d.map V.str),[]):=by
   have cl:AU (d.map V.str)=true:=by
    clear c hd;induction d with
    |nil=>rfl
    |cons x t ih=>simp only[List.map_cons,AU,ih];rfl
   have nl:AP (d.map V.str)=d.map V.str:=by
    clear c hd cl;induction d with
    |nil=>rfl
    |cons x t ih=>simp only[List.map_cons,AP,ih];rfl
   simp only[AQ,V.unmut,c,cl,nl,if_true]
   rfl
  simp(disch:=first|assumption|omega|(with_reducible rfl)|(simp only[go_sem];done)|(simp only[go_sem];omega)|fail) only[↓reduceIte,↓AO,Nat.reduceAdd,go_sem,fin]
 |succ n ih=>
  intro i d hi hd
  have h:i<l.length:=by omega
  have hx:=hl _ (List.getElem_mem h)
  have hr:=AL3 hx
  have:=ih (i+1) (d.set i (vtxB l[i])) (by omega) (by simp[hd])
  have e:(d.set i (vtxB l[i])).take (i+1)++(l.drop (i+1)).map vtxB=d.take i++(l.drop i).map vtxB:=by
   rw[List.drop_eq_getElem_cons h,List.map_cons,List.take_add_one,List.take_set_of_le (by omega),List.getElem?_set_self (by omega)]
   simp
  rw[e]at this
  rw[←this,UA]
  have ix:D9 9 (V.weak (AIJ l.length)) (.int .i64 (i:Int))=some (.ref 0 [i] 9):=by
   simp only[V.weak,D9,inside]
   simp;omega
  have hu:=AEG 1 f l
  rw[AEF,AEF,List.map_set]
  simp(disch:=first|assumption|omega|(with_reducible rfl)|(simp only[go_sem];done)|(simp only[go_sem];omega)|fail) only[↓reduceIte,↓AO,Nat.reduceAdd,go_sem,ATD h,hr,ix,hu]
theorem Y1 {l:List Vtx} (hl:∀x∈l,GZ x) (hn:l.length≤1000000) (f:Fl):Cl 26 [.lst 70 f (l.map A7)] []=some (.lst 9 .sh ((l.map vtxB).map V.str),[]):=by
 have h:=AIK hl hn f l.length 0 (List.replicate l.length []) (by omega) (by simp)
 rw[List.take_zero,List.nil_append,List.drop_zero]at h
 simp only[c0]at h
 have mk:mkL 9 (.str []) (.int .i64 (l.length:Int)) (.int .i64 (l.length:Int))=some (.lst 9 .own (List.replicate l.length (.str []))):=by
  simp only[mkL]
  rw[if_pos ⟨by omega,by omega,by omega⟩];rfl
 have tb:Dp [] (.lst 9 .own (List.replicate l.length (.str [])))=some (AIJ l.length,[AEF (List.replicate l.length [])]):=by
  simp[Dp]
 rw[←h,AOd]
 simp(disch:=first|assumption|omega|(with_reducible rfl)|(simp only[go_sem];done)|(simp only[go_sem];omega)|fail) only[↓reduceIte,↓AO,Nat.reduceAdd,go_sem,mk,tb]
theorem AQT (l:List Vtx):Short (l.map vtxB):=by
 intro s hs
 obtain⟨x,_,rfl⟩:=List.mem_map.1 hs
 have:=MQ x;omega
def vrootB (l:List Vtx):List UInt8:=AIH (l.map vtxB)
theorem Y2 {l:List Vtx} (hl:∀x∈l,GZ x) (hn:l.length≤1000000) (f:Fl):Cl 44 [.lst 70 f (l.map A7)] []=some (Bh (vrootB l),[]):=by
 have h:=Y1 hl hn
 rw[AOq,N7]
 simp(disch:=first|assumption|omega|(with_reducible rfl)|(simp only[go_sem];done)|(simp only[go_sem];omega)|fail) only[↓reduceIte,↓AO,Nat.reduceAdd,go_sem,h,ADJ (l:=l.map vtxB) (by simp;omega) (AQT l)]
 rfl
end
section
open Go AM
theorem Ib (n:Int):Cl 66 [.int .i64 n] []=some (.bool (Bz n),[]):=by
 rw[AO1,Bz]
 by_cases h:1125899906842624<n
 ·simp(disch:=first|assumption|omega|(with_reducible rfl)|(simp only[go_sem];done)|(simp only[go_sem];omega)|fail) only[↓reduceIte,↓AO,Nat.reduceAdd,go_sem]
  rw[decide_eq_true h];rfl
 ·simp(disch:=first|assumption|omega|(with_reducible rfl)|(simp only[go_sem];done)|(simp only[go_sem];omega)|fail) only[↓reduceIte,↓AO,Nat.reduceAdd,go_sem]
  rw[decide_eq_false h];rfl
theorem XF {n:Int} (h:Bz n=false): -1125899906842624≤n∧n≤1125899906842624:=by
 simp only[Bz,Bool.or_eq_false_iff,decide_eq_false_iff_not]at h;omega
def JC (t:List UInt8) (a b:Int):Int:=if t=[109,97,120]then(if b>a then b else a)else if t=[108,97,98,101,108]∨t=[115,115,115,112]∨t=[98,102,115]then(if b<a then b else a)else a+b
def Hy (t:List UInt8) (a b:Int):Int×Int:=if Fb t=false then(0,70)else if Bz a||Bz b then(0,71)else if Bz (JC t a b)then(0,71)else(JC t a b,0)
theorem ADL (t:List UInt8) (a b:Int):Cl 65 [.str t,.int .i64 a,.int .i64 b] []=some (.tup [.int .i64 (Hy t a b).1,.int .i64 (Hy t a b).2],[]):=by
 have kn:=MP t
 have ga:=Ib a
 have gb:=Ib b
 have nt:un .not (.bool true)=some (.bool false):=rfl
 have nf:un .not (.bool false)=some (.bool true):=rfl
 have rj1:∀h,AB h [V.str t]=[V.str t]:=fun _=>rfl
 have rj2:∀h (z:Int),AB h [V.int .i64 z]=[V.int .i64 z]:=fun _ _=>rfl
 cases hk:Fb t with
 |false=>
  rw[hk]at kn
  rw[Hy,if_pos hk,JU]
  (repeat' with_reducible first|refine(CO _ _).trans ?_|refine(CV _ _).trans ?_|refine(AO _ _).trans ?_|((first|(refine' (AA ?_ _).trans ?_;rotate_left)|refine(if_pos ?_).trans ?_|refine(BL ?_ _ _).trans ?_);focus (first|rfl|(simp(disch:=first|assumption|omega|with_reducible rfl|(simp only[go_sem]<;>omega)|fail) only[↓reduceIte,↓AO,Nat.reduceAdd,go_sem,Bool.not_true,Bool.not_false,rj1,kn,nf]<;>first|rfl|omega)|assumption|omega))|(refine(BA ?_ _ _).trans ?_;focus (first|(simp(disch:=first|assumption|omega|with_reducible rfl|(simp only[go_sem]<;>omega)|fail) only[↓reduceIte,↓AO,Nat.reduceAdd,go_sem,Bool.not_true,Bool.not_false,rj1,kn,nf]<;>omega)|assumption|omega))|fail)
  rfl
 |true=>
 rw[hk]at kn
 rw[Hy,if_neg (by rw[hk];simp)]
 cases h1:Bz a with
 |true=>
  rw[h1]at ga
  rw[Bool.true_or,if_pos rfl,JU]
  (repeat' with_reducible first|refine(CO _ _).trans ?_|refine(CV _ _).trans ?_|refine(AO _ _).trans ?_|((first|(refine' (AA ?_ _).trans ?_;rotate_left)|refine(if_pos ?_).trans ?_|refine(BL ?_ _ _).trans ?_);focus (first|rfl|(simp(disch:=first|assumption|omega|with_reducible rfl|(simp only[go_sem]<;>omega)|fail) only[↓reduceIte,↓AO,Nat.reduceAdd,go_sem,Bool.not_true,Bool.not_false,rj1,kn,nt,rj2,ga]<;>first|rfl|omega)|assumption|omega))|(refine(BA ?_ _ _).trans ?_;focus (first|(simp(disch:=first|assumption|omega|with_reducible rfl|(simp only[go_sem]<;>omega)|fail) only[↓reduceIte,↓AO,Nat.reduceAdd,go_sem,Bool.not_true,Bool.not_false,rj1,kn,nt,rj2,ga]<;>omega)|assumption|omega))|fail)
  rfl
 |false=>
 rw[h1]at ga
 cases h2:Bz b with
 |true=>
  rw[h2]at gb
  rw[Bool.false_or,if_pos rfl,JU]
  (repeat' with_reducible first|refine(CO _ _).trans ?_|refine(CV _ _).trans ?_|refine(AO _ _).trans ?_|((first|(refine' (AA ?_ _).trans ?_;rotate_left)|refine(if_pos ?_).trans ?_|refine(BL ?_ _ _).trans ?_);focus (first|rfl|(simp(disch:=first|assumption|omega|with_reducible rfl|(simp only[go_sem]<;>omega)|fail) only[↓reduceIte,↓AO,Nat.reduceAdd,go_sem,Bool.not_true,Bool.not_false,rj1,kn,nt,rj2,ga,gb]<;>first|rfl|omega)|assumption|omega))|(refine(BA ?_ _ _).trans ?_;focus (first|(simp(disch:=first|assumption|omega|with_reducible rfl|(simp only[go_sem]<;>omega)|fail) only[↓reduceIte,↓AO,Nat.reduceAdd,go_sem,Bool.not_true,Bool.not_false,rj1,kn,nt,rj2,ga,gb]<;>omega)|assumption|omega))|fail)
  rfl
 |false=>
 rw[h2]at gb
 rw[Bool.false_or,if_neg (by simp)]
 have r1:=XF h1
 have r2:=XF h2
 have ad:AL .add (.int .i64 a) (.int .i64 b)=some (.int .i64 (a+b)):=by rw[Bq,wrap_i64 (by omega) (by omega)]
 have mx:Xh (.int .i64 a) (.int .i64 b)=some (.int .i64 (if b>a then b else a)):=by simp only[Xh,if_true]
 have mn:O4 (.int .i64 a) (.int .i64 b)=some (.int .i64 (if b<a then b else a)):=by simp only[O4,if_true]
 have fin:∀z:Int,(Cl 66 (AB [] [.int .i64 z]) []).bind (fun r=>V.ite r.1
  (if(List.all [(V.int .i64 71),(V.int .i64 0)] V.okE)=true then AQ 0 [] (V.tup [(V.int .i64 0),(V.int .i64 71)])else none)
  (if(List.all [(V.int .i64 0),(V.int .i64 z)] V.okE)=true then AQ 0 [] (V.tup [(V.int .i64 z),(V.int .i64 0)])else none))=
  some (.tup [.int .i64 (if Bz z then((0:Int),(71:Int))else(z,0)).1,.int .i64 (if Bz z then((0:Int),(71:Int))else(z,0)).2],[]):=fun z=>by
  refine(AA (show Cl 66 (AB [] [.int .i64 z]) []=_ from Ib z) _).trans ?_
  cases Bz z<;>rfl
 have es:∀l:List UInt8,AL .eql (.str t) (.str l)=some (.bool (decide (t=l))):=fun l=>by
  simp only[AL]
  congr 2
  exact Bool.eq_iff_iff.2 (by simp)
 have e1:=es [109,97,120]
 have e2:=es [108,97,98,101,108]
 have e3:=es [115,115,115,112]
 have e4:=es [98,102,115]
 by_cases c1:t=[109,97,120]
 ·rw[decide_eq_true c1]at e1
  have hf:JC t a b=if b>a then b else a:=by rw[JC,if_pos c1]
  rw[hf,←fin,JU]
  generalize (if b>a then b else a)=z at*
  clear fin es
  (repeat' with_reducible first|refine(CO _ _).trans ?_|refine(CV _ _).trans ?_|refine(AO _ _).trans ?_|((first|(refine' (AA ?_ _).trans ?_;rotate_left)|refine(if_pos ?_).trans ?_|refine(BL ?_ _ _).trans ?_);focus (first|rfl|(simp(disch:=first|assumption|omega|with_reducible rfl|(simp only[go_sem]<;>omega)|fail) only[↓reduceIte,↓AO,Nat.reduceAdd,go_sem,Bool.not_true,Bool.not_false,rj1,kn,nt,rj2,ga,gb,ad,e1,mx]<;>first|rfl|omega)|assumption|omega))|(refine(BA ?_ _ _).trans ?_;focus (first|(simp(disch:=first|assumption|omega|with_reducible rfl|(simp only[go_sem]<;>omega)|fail) only[↓reduceIte,↓AO,Nat.reduceAdd,go_sem,Bool.not_true,Bool.not_false,rj1,kn,nt,rj2,ga,gb,ad,e1,mx]<;>omega)|assumption|omega))|fail)
  rfl
 rw[decide_eq_false c1]at e1
 by_cases c2:t=[108,97,98,101,108]
 ·rw[decide_eq_true c2]at e2
  have hf:JC t a b=if b<a then b else a:=by rw[JC,if_neg c1,if_pos (Or.inl c2)]
  rw[hf,←fin,JU]
  generalize (if b<a then b else a)=z at*
  clear fin es
  (repeat' with_reducible first|refine(CO _ _).trans ?_|refine(CV _ _).trans ?_|refine(AO _ _).trans ?_|((first|(refine' (AA ?_ _).trans ?_;rotate_left)|refine(if_pos ?_).trans ?_|refine(BL ?_ _ _).trans ?_);focus (first|rfl|(simp(disch:=first|assumption|omega|with_reducible rfl|(simp only[go_sem]<;>omega)|fail) only[↓reduceIte,↓AO,Nat.reduceAdd,go_sem,Bool.not_true,Bool.not_false,rj1,kn,nt,rj2,ga,gb,ad,e1,e2,mn]<;>first|rfl|omega)|assumption|omega))|(refine(BA ?_ _ _).trans ?_;focus (first|(simp(disch:=first|assumption|omega|with_reducible rfl|(simp only[go_sem]<;>omega)|fail) only[↓reduceIte,↓AO,Nat.reduceAdd,go_sem,Bool.not_true,Bool.not_false,rj1,kn,nt,rj2,ga,gb,ad,e1,e2,mn]<;>omega)|assumption|omega))|fail)
  rfl
 rw[decide_eq_false c2]at e2
 by_cases c3:t=[115,115,115,112]
 ·rw[decide_eq_true c3]at e3
  have hf:JC t a b=if b<a then b else a:=by rw[JC,if_neg c1,if_pos (Or.inr (Or.inl c3))]
  rw[hf,←fin,JU]
  generalize (if b<a then b else a)=z at*
  clear fin es
  (repeat' with_reducible first|refine(CO _ _).trans ?_|refine(CV _ _).trans ?_|refine(AO _ _).trans ?_|((first|(refine' (AA ?_ _).trans ?_;rotate_left)|refine(if_pos ?_).trans ?_|refine(BL ?_ _ _).trans ?_);focus (first|rfl|(simp(disch:=first|assumption|omega|with_reducible rfl|(simp only[go_sem]<;>omega)|fail) only[↓reduceIte,↓AO,Nat.reduceAdd,go_sem,Bool.not_true,Bool.not_false,rj1,kn,nt,rj2,ga,gb,ad,e1,e2,e3,mn]<;>first|rfl|omega)|assumption|omega))|(refine(BA ?_ _ _).trans ?_;focus (first|(simp(disch:=first|assumption|omega|with_reducible rfl|(simp only[go_sem]<;>omega)|fail) only[↓reduceIte,↓AO,Nat.reduceAdd,go_sem,Bool.not_true,Bool.not_false,rj1,kn,nt,rj2,ga,gb,ad,e1,e2,e3,mn]<;>omega)|assumption|omega))|fail)
  rfl
 rw[decide_eq_false c3]at e3
 by_cases c4:t=[98,102,115]
 ·rw[decide_eq_true c4]at e4
  have hf:JC t a b=if b<a then b else a:=by rw[JC,if_neg c1,if_pos (Or.inr (Or.inr c4))]
  rw[hf,←fin,JU]
  generalize (if b<a then b else a)=z at*
  clear fin es
  (repeat' with_reducible first|refine(CO _ _).trans ?_|refine(CV _ _).trans ?_|refine(AO _ _).trans ?_|((first|(refine' (AA ?_ _).trans ?_;rotate_left)|refine(if_pos ?_).trans ?_|refine(BL ?_ _ _).trans ?_);focus (first|rfl|(simp(disch:=first|assumption|omega|with_reducible rfl|(simp only[go_sem]<;>omega)|fail) only[↓reduceIte,↓AO,Nat.reduceAdd,go_sem,Bool.not_true,Bool.not_false,rj1,kn,nt,rj2,ga,gb,ad,e1,e2,e3,e4,mn]<;>first|rfl|omega)|assumption|omega))|(refine(BA ?_ _ _).trans ?_;focus (first|(simp(disch:=first|assumption|omega|with_reducible rfl|(simp only[go_sem]<;>omega)|fail) only[↓reduceIte,↓AO,Nat.reduceAdd,go_sem,Bool.not_true,Bool.not_false,rj1,kn,nt,rj2,ga,gb,ad,e1,e2,e3,e4,mn]<;>omega)|assumption|omega))|fail)
  rfl
 rw[decide_eq_false c4]at e4
 have hf:JC t a b=a+b:=by rw[JC,if_neg c1,if_neg (by rintro (h|h|h)<;>contradiction)]
 rw[hf,←fin,JU]
 generalize a+b=z at*
 clear fin es
 (repeat' with_reducible first|refine(CO _ _).trans ?_|refine(CV _ _).trans ?_|refine(AO _ _).trans ?_|((first|(refine' (AA ?_ _).trans ?_;rotate_left)|refine(if_pos ?_).trans ?_|refine(BL ?_ _ _).trans ?_);focus (first|rfl|(simp(disch:=first|assumption|omega|with_reducible rfl|(simp only[go_sem]<;>omega)|fail) only[↓reduceIte,↓AO,Nat.reduceAdd,go_sem,Bool.not_true,Bool.not_false,rj1,kn,nt,rj2,ga,gb,ad,e1,e2,e3,e4]<;>first|rfl|omega)|assumption|omega))|(refine(BA ?_ _ _).trans ?_;focus (first|(simp(disch:=first|assumption|omega|with_reducible rfl|(simp only[go_sem]<;>omega)|fail) only[↓reduceIte,↓AO,Nat.reduceAdd,go_sem,Bool.not_true,Bool.not_false,rj1,kn,nt,rj2,ga,gb,ad,e1,e2,e3,e4]<;>omega)|assumption|omega))|fail)
 rfl
def F9 (t:List UInt8):Int×Int→List Int→Int×Int
 |q,[]=>q
 |q,x::l=>if q.2=0 then F9 t (Hy t q.1 x) l else q
def Y3 (t:List UInt8):List Int→Int×Bool×Int
 |[]=>(0,false,0)
 |x::l=>let q:=F9 t (Hy [109,97,120] x x) l;if q.2=0 then(q.1,true,0)else(0,false,q.2)
def Es (t:List UInt8) (l:List Msg) (v:Int):Int×Bool×Int:=if Fb t=false then(0,false,70)else Y3 t ((DI (l.filter fun m=>decide (m.to=v))).map (·.val))
theorem Y4 {t:List UInt8} {a b:Int} (h:(Hy t a b).2=0): -1125899906842624≤(Hy t a b).1∧(Hy t a b).1≤1125899906842624:=by
 unfold Hy at*
 split at h
 ·cases h
 ·rename_i h1;rw[if_neg h1]
  split at h
  ·cases h
  ·rename_i h2;rw[if_neg h2]
   split at h
   ·cases h
   ·rename_i h3;rw[if_neg h3];exact XF (by simpa using h3)
theorem Y5 {t:List UInt8}:∀{l:List Int} {q:Int×Int},(q.2=0→ -1125899906842624≤q.1∧q.1≤1125899906842624)→(F9 t q l).2=0→ -1125899906842624≤(F9 t q l).1∧(F9 t q l).1≤1125899906842624
 |[],q,hq,h=>hq h
 |x::l,q,hq,h=>by
  rw[F9]at h⊢
  split at h
  ·rename_i h1;rw[if_pos h1];exact Y5 (fun h=>Y4 h) h
  ·rename_i h1;exact absurd h h1
theorem Y6 (t:List UInt8) (l:List Msg) (v:Int): -1125899906842624≤(Es t l v).1∧(Es t l v).1≤1125899906842624:=by
 unfold Es
 split
 ·simp
 ·generalize (DI (l.filter fun m=>decide (m.to=v))).map (·.val)=xs
  cases xs with
  |nil=>simp[Y3]
  |cons x xs=>
   simp only[Y3]
   split
   ·rename_i h;exact Y5 (fun h=>Y4 h) h
   ·simp
theorem AL4 (t:List UInt8) {l:List Msg} (hl:l.length≤1000000) {fl:Fl}:∀(m i:Nat) (q:Int×Int),i+m=l.length→
 VX (.str t) (.int .i64 q.1) (.int .i64 q.2) (BZ .sh l) (.int .i64 (l.length:Int)) (.int .i64 (i:Int)) []=
  some (.tup [.int .i64 (if(F9 t q ((l.drop i).map (·.val))).2=0 then((F9 t q ((l.drop i).map (·.val))).1,true,(0:Int))else(0,false,(F9 t q ((l.drop i).map (·.val))).2)).1,
   .bool (if(F9 t q ((l.drop i).map (·.val))).2=0 then((F9 t q ((l.drop i).map (·.val))).1,true,(0:Int))else(0,false,(F9 t q ((l.drop i).map (·.val))).2)).2.1,
   .int .i64 (if(F9 t q ((l.drop i).map (·.val))).2=0 then((F9 t q ((l.drop i).map (·.val))).1,true,(0:Int))else(0,false,(F9 t q ((l.drop i).map (·.val))).2)).2.2],[]):=by
 intro m
 induction m with
 |zero=>
  intro i q hi
  obtain⟨a,e⟩:=q
  have ls:AL .lss (.int .i64 (i:Int)) (.int .i64 (l.length:Int))=some (.bool false):=by rw[b_lss,decide_eq_false (by omega)]
  rw[List.drop_eq_nil_of_le (by omega),List.map_nil,F9,NZ]
  generalize (l.length:Int)=ll at*
  generalize BZ .sh l=L at*
  by_cases he:e=0
  ·have ne:AL .neq (.int .i64 e) (.int .i64 0)=some (.bool false):=by rw[b_neq];simp[he]
   simp only[he,if_true]
   rw[he]at ne
   (repeat' with_reducible first|refine(CO _ _).trans ?_|refine(CV _ _).trans ?_|refine(AO _ _).trans ?_|((first|(refine' (AA ?_ _).trans ?_;rotate_left)|refine(if_pos ?_).trans ?_|refine(BL ?_ _ _).trans ?_);focus (first|rfl|(simp(disch:=first|assumption|omega|with_reducible rfl|(simp only[go_sem]<;>omega)|fail) only[↓reduceIte,↓AO,Nat.reduceAdd,go_sem,Bool.not_true,Bool.not_false,ls,ne]<;>first|rfl|omega)|assumption|omega))|(refine(BA ?_ _ _).trans ?_;focus (first|(simp(disch:=first|assumption|omega|with_reducible rfl|(simp only[go_sem]<;>omega)|fail) only[↓reduceIte,↓AO,Nat.reduceAdd,go_sem,Bool.not_true,Bool.not_false,ls,ne]<;>omega)|assumption|omega))|fail)
   rfl
  ·have ne:AL .neq (.int .i64 e) (.int .i64 0)=some (.bool true):=by rw[b_neq];simp[he]
   simp only[he,if_false]
   (repeat' with_reducible first|refine(CO _ _).trans ?_|refine(CV _ _).trans ?_|refine(AO _ _).trans ?_|((first|(refine' (AA ?_ _).trans ?_;rotate_left)|refine(if_pos ?_).trans ?_|refine(BL ?_ _ _).trans ?_);focus (first|rfl|(simp(disch:=first|assumption|omega|with_reducible rfl|(simp only[go_sem]<;>omega)|fail) only[↓reduceIte,↓AO,Nat.reduceAdd,go_sem,Bool.not_true,Bool.not_false,ls,ne]<;>first|rfl|omega)|assumption|omega))|(refine(BA ?_ _ _).trans ?_;focus (first|(simp(disch:=first|assumption|omega|with_reducible rfl|(simp only[go_sem]<;>omega)|fail) only[↓reduceIte,↓AO,Nat.reduceAdd,go_sem,Bool.not_true,Bool.not_false,ls,ne]<;>omega)|assumption|omega))|fail)
   rfl
 |succ m ih=>
  intro i q hi
  have h:i<l.length:=by omega
  obtain⟨a,e⟩:=q
  have ls:AL .lss (.int .i64 (i:Int)) (.int .i64 (l.length:Int))=some (.bool true):=by rw[b_lss,decide_eq_true (by omega)]
  have ix:D9 103 (BZ .sh l) (.int .i64 (i:Int))=some (.rop 103 (Ac l[i])):=by
   rw[BZ,DL,List.getElem?_map,List.getElem?_eq_getElem h];rfl
  have l1:AX [] 103 (.rop 103 (Ac l[i]))=some (Ac l[i]):=EK
  have ad:AL .add (.int .i64 (i:Int)) (.int .i64 1)=some (.int .i64 ((i+1:Nat):Int)):=by rw[Bq,wrap_i64 (by omega) (by omega)];rfl
  have st:∀ms:Msg,DJ (tyG 102) 103 ([]++[zMs]) (.ref ([]:List V).length [] 103) (Ac ms)=some [Ac ms]:=fun ms=>rfl
  rw[List.drop_eq_getElem_cons h,List.map_cons,F9]
  by_cases he:e=0
  ·have ne:AL .neq (.int .i64 e) (.int .i64 0)=some (.bool false):=by rw[b_neq];simp[he]
   have fo:=ADL t a l[i].val
   have ld:∀ms:Msg,AX [Ac ms] 2 (.ref 0 [2] 2)=some (.int .i64 ms.val):=fun ms=>rfl
   have rj:∀(h:List V) (a b:Int),AB h [.str t,.int .i64 a,.int .i64 b]=[.str t,.int .i64 a,.int .i64 b]:=fun _ _ _=>rfl
   have ul:∀(n:Nat) (a b c z:Int),Aa n [.str t,.int .i64 a,.int .i64 b,BZ .sh l,.int .i64 c,.int .i64 z]=true:=fun _ _ _ _ _=>rfl
   rw[if_pos he,←ih (i+1) (Hy t a l[i].val) (by omega),NZ]
   clear ih
   subst he
   generalize Hy t a l[i].val=q2 at*
   generalize l[i]=ms at*
   generalize (i+1:Nat)=i2 at*
   generalize (l.length:Int)=ll at*
   generalize BZ .sh l=L at*
   refine(AA ls _).trans ?_
   refine(CO _ _).trans ?_
   refine(AA ix _).trans ?_
   refine(AA l1 _).trans ?_
   refine(AA (st ms) _).trans ?_
   refine(AA ne _).trans ?_
   refine(CV _ _).trans ?_
   refine(AA (show _=some (V.ref 0 [2] 2)from rfl) _).trans ?_
   refine(AA (ld ms) _).trans ?_
   refine(AA (show _=some _ from fo) _).trans ?_
   refine(AA (show _=some (V.int .i64 q2.1)from rfl) _).trans ?_
   refine(AA (show _=some (V.int .i64 q2.2)from rfl) _).trans ?_
   refine(AA ad _).trans ?_
   exact if_pos (ul _ _ _ _ _)
  ·have ne:AL .neq (.int .i64 e) (.int .i64 0)=some (.bool true):=by rw[b_neq];simp[he]
   simp only[he,if_false]
   rw[NZ]
   clear ih
   generalize l[i]=ms at*
   generalize (i+1:Nat)=i2 at*
   generalize (l.length:Int)=ll at*
   generalize BZ .sh l=L at*
   refine(AA ls _).trans ?_
   refine(CO _ _).trans ?_
   refine(AA ix _).trans ?_
   refine(AA l1 _).trans ?_
   refine(AA (st ms) _).trans ?_
   refine(AA ne _).trans ?_
   refine(CO _ _).trans ?_
   refine(AA ne _).trans ?_
   refine(CO _ _).trans ?_
   rfl
theorem QA (t:List UInt8) {l:List Msg} (hl:l.length≤1000000) (v:Int) {fl:Fl} (hfl:fl= .sh∨fl= .nil∨fl= .own):
 Cl 37 [.str t,BZ fl l,.int .i64 v] []=some (.tup [.int .i64 (Es t l v).1,.bool (Es t l v).2.1,.int .i64 (Es t l v).2.2],[]):=by
 have kn:=MP t
 have nt:un .not (.bool true)=some (.bool false):=rfl
 have nf:un .not (.bool false)=some (.bool true):=rfl
 have rj1:∀h,AB h [V.str t]=[V.str t]:=fun _=>rfl
 cases hk:Fb t with
 |false=>
  rw[hk]at kn
  rw[Es,if_pos hk,AFx]
  generalize BZ fl l=L
  (repeat' with_reducible first|refine(CO _ _).trans ?_|refine(CV _ _).trans ?_|refine(AO _ _).trans ?_|((first|(refine' (AA ?_ _).trans ?_;rotate_left)|refine(if_pos ?_).trans ?_|refine(BL ?_ _ _).trans ?_);focus (first|rfl|(simp(disch:=first|assumption|omega|with_reducible rfl|(simp only[go_sem]<;>omega)|fail) only[↓reduceIte,↓AO,Nat.reduceAdd,go_sem,Bool.not_true,Bool.not_false,rj1,kn,nf]<;>first|rfl|omega)|assumption|omega))|(refine(BA ?_ _ _).trans ?_;focus (first|(simp(disch:=first|assumption|omega|with_reducible rfl|(simp only[go_sem]<;>omega)|fail) only[↓reduceIte,↓AO,Nat.reduceAdd,go_sem,Bool.not_true,Bool.not_false,rj1,kn,nf]<;>omega)|assumption|omega))|fail)
  rfl
 |true=>
 rw[hk]at kn
 rw[Es,if_neg (by rw[hk];simp),AFx]
 have to:=ANg hl v (fl:= .sh) (.inl rfl)
 have ton:=ANg hl v (fl:= .nil) (.inr (.inl rfl))
 have hlen:(DI (l.filter fun m=>decide (m.to=v))).length≤1000000:=by
  rw[DI,List.length_mergeSort]
  have:=List.length_filter_le (fun m:Msg=>decide (m.to=v)) l
  omega
 generalize hs:DI (l.filter fun m=>decide (m.to=v))=s at*
 have to':∀h,Cl 64 (AB h [BZ fl l,.int .i64 v]) []=some (BZ .sh s,[]):=fun h=>by
  rcases hfl with rfl|rfl|rfl
  ·exact to
  ·exact to
  ·exact to
 refine(AA (show _=some (V.bool true,[])from kn) _).trans ?_
 refine(AA nt _).trans ?_
 refine(CV _ _).trans ?_
 refine(AA (to' _) _).trans ?_
 cases s with
 |nil=>rfl
 |cons m s=>
  have e0:AL .eql (.int .i64 (((m::s).map Ac).length:Int)) (.int .i64 0)=some (.bool false):=by rw[b_eql];simp;omega
  have fo:=ADL [109,97,120] m.val m.val
  have lp:=AL4 t (l:=s) (by simp at hlen;omega) (fl:= .sh) s.length 0 (Hy [109,97,120] m.val m.val) (by omega)
  rw[List.drop_zero]at lp
  have sl:slL 103 (BZ .sh (m::s)) (some (.int .i64 1)) none none=some (BZ .sh s):=by
   have hb:CQ (m::s).length (some (.int .i64 1)) none none=some (1,(m::s).length):=by
    simp only[CQ,List.length_cons]
    simp
    omega
   simp only[slL,BZ,List.length_map,hb]
   simp
   exact⟨rfl,List.take_of_length_le (by simp)⟩
  have ix0:D9 103 (V.weak (BZ .sh (m::s))) (.int .i64 0)=some (.rop 103 (Ac m)):=(DL 103 .sh ((m::s).map Ac) .i64 0).trans rfl
  have fv:fA 103 2 2 (.rop 103 (Ac m))=some (.rop 2 (.int .i64 m.val)):=rfl
  have lv:AX [] 2 (.rop 2 (.int .i64 m.val))=some (.int .i64 m.val):=rfl
  have l0:EJ (BZ .sh s)=some (.int .i64 (s.length:Int)):=by show some _=_;rw[List.length_map]
  simp only[List.map_cons,Y3]
  rw[←lp]
  clear lp
  generalize Hy [109,97,120] m.val m.val=q at*
  refine(AA (show _=some (V.int .i64 (((m::s).map Ac).length:Int))from rfl) _).trans ?_
  refine(AA e0 _).trans ?_
  refine(CV _ _).trans ?_
  refine(AA ix0 _).trans ?_
  refine(AA fv _).trans ?_
  refine(AA lv _).trans ?_
  refine(AA ix0 _).trans ?_
  refine(AA fv _).trans ?_
  refine(AA lv _).trans ?_
  refine(AA (show _=some _ from fo) _).trans ?_
  refine(AA (show _=some (V.int .i64 q.1)from rfl) _).trans ?_
  refine(AA (show _=some (V.int .i64 q.2)from rfl) _).trans ?_
  refine(AA sl _).trans ?_
  exact AA l0 _
end
section
open Go AM
theorem XG (n:Int):I64 (IntKind.wrap .i64 n):=by
 simp only[I64,IntKind.wrap,IntKind.bits,IntKind.signed]
 have:=Int.emod_nonneg n (show(18446744073709551616:Int)≠0 by decide)
 have:=Int.emod_lt_of_pos n (show(0:Int)<18446744073709551616 by decide)
 simp
 split<;>omega
theorem AL5 (a b:Int) (hb:b≠0):∃q,I64 q∧Cl 106 [.int .i64 a,.int .i64 b] []=some (.int .i64 q,[]):=by
 have q:=YS .i64 a b hb
 have r:=MH .i64 a b hb
 have s:=Ku .i64 (IntKind.wrap .i64 (a.tdiv b)) 1
 rw[AKd]
 by_cases h:a.tmod b<0
 ·have ls:AL .lss (.int .i64 (a.tmod b)) (.int .i64 0)=some (.bool true):=by rw[b_lss,decide_eq_true h]
  refine⟨IntKind.wrap .i64 (IntKind.wrap .i64 (a.tdiv b)-1),XG _,?_⟩
  refine(AA q _).trans ?_
  refine(AA r _).trans ?_
  refine(AA ls _).trans ?_
  refine(CO _ _).trans ?_
  exact AA s _
 ·have ls:AL .lss (.int .i64 (a.tmod b)) (.int .i64 0)=some (.bool false):=by rw[b_lss,decide_eq_false h]
  refine⟨_,XG (a.tdiv b),?_⟩
  refine(AA q _).trans ?_
  refine(AA r _).trans ?_
  refine(AA ls _).trans ?_
  exact CV _ _
def Q4 (H:List V) (K:Rv):Prop:=∃(v:Int) (a s:Bool) (w:Int),I64 v∧I64 w∧K=some (.tup [.int .i64 v,.bool a,.bool s,.int .i64 w],H)
theorem Q4.bind {A:Type} {H:List V} {o:Option A} {x:A} (h:o=some x) {K:A→Rv} (q:Q4 H (K x)):Q4 H (o.bind K):=by rw[h];exact q
theorem Q4.ite {H:List V} {c:Bool} {a b:Rv} (h1:Q4 H a) (h2:Q4 H b):Q4 H (V.ite (.bool c) a b):=by cases c<;>assumption
theorem Q4.leaf {v w:Int} (hv:I64 v) (hw:I64 w) (a s:Bool) (n:Nat) (H:List V):Q4 (H.take n) (if(List.all [.int .i64 w,.bool s,.bool a,.int .i64 v] V.okE)=true then AQ n H (V.tup [.int .i64 v,.bool a,.bool s,.int .i64 w])else none):=⟨v,a,s,w,hv,hw,rfl⟩
section
variable {j:Job} {at_:Int} {x:Vtx} {c:Bool}
abbrev hSt (j:Job) (at_:Int) (x:Vtx) (c:Bool):List V:=[vJ j,.int .i64 at_,A7 x,.bool c]
theorem AEH (hx:I64 x.val) (hi:I64 x.inn) (b:Bool):Q4 (hSt j at_ x c) (Cl 105 [.bool b,.ref 1 [] 3,.ref 2 [] 70,.ref 3 [] 4] (hSt j at_ x c)):=by
 rw[AKc]
 have e:=b_eql .i64 at_ 0
 refine Q4.bind (show AX (hSt j at_ x c) 3 (.ref 1 [] 3)=some (.int .i64 at_)from rfl) ?_
 refine Q4.bind e ?_
 refine Q4.ite ?_ ?_
 ·exact Q4.leaf hx hx false true 4 (hSt j at_ x c)
 ·rw[AO]
  cases c<;>cases b
  ·exact Q4.leaf hx (by simp[I64]) false false 4 _
  ·exact Q4.leaf hx (by simp[I64]) false false 4 _
  ·exact Q4.leaf hx (by simp[I64]) false false 4 _
  ·exact Q4.leaf hi hi false true 4 _
theorem Q4.call (hx:I64 x.val) (hi:I64 x.inn) (b:Bool) {H:List V} {K:V→List V→Rv} (h:∀v a s w,I64 v→I64 w→Q4 H (K (.tup [.int .i64 v,.bool a,.bool s,.int .i64 w]) (hSt j at_ x c))):
 Q4 H (BH P CX W (.clo 105 [.ref 1 [] 3,.ref 2 [] 70,.ref 3 [] 4]) [.bool b] (hSt j at_ x c) K):=by
 obtain⟨v,a,s,w,hv,hw,e⟩:=AEH (j:=j) (at_:=at_) (c:=c) hx hi b
 rw[(FC K (by kernel_rfl) (by kernel_rfl)).trans (AA e _)]
 exact h v a s w hv hw
theorem Q4.down {H h:List V} {a b:Int} (hb:b≠0) {K:V×List V→Rv} (q:∀z,I64 z→Q4 H (K (.int .i64 z,[]))):Q4 H ((Cl 106 (AB h [.int .i64 a,.int .i64 b]) []).bind K):=by
 obtain⟨z,hz,e⟩:=AL5 a b hb
 exact Q4.bind (show Cl 106 (AB h [.int .i64 a,.int .i64 b]) []=_ from e) (q z hz)
theorem Q4.iff {H:List V} {c:Bool} (h:c=true) {K:Rv} (q:Q4 H K):Q4 H (if c=true then K else none):=by rw[if_pos h];exact q
theorem Q4.jn {H:List V} {A:Type} {f:A} {g:A→Rv} (q:Q4 H (g f)):Q4 H (jn f g):=q
set_option maxHeartbeats 4000000 in
theorem AIL (hx:I64 x.val) (hi:I64 x.inn) {n:Int} (hn:0≤n):Q4 [] (Cl 68 [vJ j,.int .i64 at_,A7 x,.int .i64 n] []):=by
 have w0:∀z:Int,I64 (IntKind.wrap .i64 z):=XG
 have i0:I64 0:=by simp[I64]
 have i1:I64 1:=by simp[I64]
 have hm:(if 1>n then 1 else n)≠0:=by split<;>omega
 have h100:(100:Int)≠0:=by decide
 rw[AO3]
 unfold AGf AGg AGh AGi AGj AGk AGl AGm AGn AGo Vh Vj Vk Vl Vm Vo Vp Vq Vr Vs Vt Vu Vw V3 Vx Vy Vz
 refine Q4.iff rfl ?_
 refine Q4.iff rfl ?_
 refine Q4.iff rfl ?_
 repeat' first
  |exact Q4.leaf (by first|assumption|exact w0 _) (by first|assumption|exact w0 _) _ _ 0 _
  |refine Q4.ite ?_ ?_
  |refine Q4.call (j:=j) (at_:=at_) (x:=x) hx hi _ (fun v a s w hv hw=> ?_)
  |refine Q4.down (by first|assumption) (fun z hz=> ?_)
  |refine Q4.jn ?_
  |refine Q4.iff rfl ?_
  |refine Q4.bind rfl ?_
end
end
section
open Go AM
abbrev kEd (e:E0):Int×Int:=(e.fr,e.to)
def kLt (a b:E0):Prop:=a.fr<b.fr∨a.fr=b.fr∧a.to<b.to
def InB (e:E0):Prop:=0≤e.fr∧e.fr<64∧0≤e.to∧e.to<64
def toE (e:E0):Ed.Edg:=⟨e.fr.toNat%64,e.to.toNat%64,e.w,Nat.mod_lt _ (by omega),Nat.mod_lt _ (by omega)⟩
def ofE (x:Ed.Edg):E0:=⟨(x.fr:Int),(x.to:Int),x.w⟩
theorem AQU {e:E0} (h:InB e):ofE (toE e)=e:=by
 obtain⟨a,b,c⟩:=e
 simp only[InB]at h
 simp only[ofE,toE,E0.mk.injEq,and_true]
 omega
theorem ADM {es:List E0} (h:∀e∈es,InB e):(es.map toE).map ofE=es:=by
 rw[List.map_map]
 conv=>rhs;rw[←List.map_id es]
 exact List.map_congr_left fun e he=>AQU (h e he)
theorem ATW {es:List E0} (h:∀e∈es,InB e):(es.map toE).map Ed.vEdg=es.map EX:=by
 conv=>rhs;rw[←ADM h]
 rw[List.map_map,List.map_map,List.map_map];rfl
def N9 (es:List E0):List E0:=(CZ (es.map toE)).map ofE
theorem AQV (es:List E0):(N9 es).map EX=(CZ (es.map toE)).map Ed.vEdg:=by
 rw[N9,List.map_map];rfl
theorem Uw {es:List E0} (h:∀e∈es,InB e):(N9 es).Perm es:=by
 have:=(Lh (es.map toE)).map ofE
 rwa [ADM h]at this
theorem Y7 (es:List E0):(N9 es).length=es.length:=by simp[N9,KG]
theorem Y8 {es:List E0} (h:∀e∈es,InB e) (hn:(es.map kEd).Nodup):(N9 es).Pairwise kLt:=by
 have hp:=Uw h
 have h1:=MO (es.map toE)
 have h2:((N9 es).map kEd).Nodup:=((hp.map kEd).nodup_iff).2 hn
 rw[N9,List.map_map,List.nodup_iff_pairwise_ne,List.pairwise_map]at h2
 rw[N9,List.pairwise_map]
 refine(h1.and h2).imp fun{a b} hab=> ?_
 have hk:KU a≠KU b:=hab.2
 have:=Ol hab.1 hk
 rw[Ed.ltE_iff]at this
 simp only[kLt,ofE]
 omega
theorem XH {g:Grf} (h:F8 g=0):(1≤g.n∧g.n≤64)∧g.es.length≤512∧g.es.any (F7 g.n)=false∧(g.es.map kEd).Nodup:=by
 rw[F8]at h
 split at h
 ·rename_i hc
  split at h
  ·rename_i hn;exact⟨⟨hc.1,hc.2.1⟩,hc.2.2.1,hc.2.2.2,hn⟩
  ·cases h
 ·cases h
theorem AQW {n:Int} {e:E0} (h:F7 n e=false):0≤e.fr∧e.fr<n∧0≤e.to∧e.to<n∧0≤e.w∧e.w≤1048576:=by
 simp only[F7,Bool.or_eq_false_iff,decide_eq_false_iff_not]at h;omega
theorem AL7 {n:Int} {es:List E0} (h:es.any (F7 n)=false):∀e∈es,0≤e.fr∧e.fr<n∧0≤e.to∧e.to<n∧0≤e.w∧e.w≤1048576:=by
 intro e he
 rw[List.any_eq_false]at h
 exact AQW (by simpa using h e he)
theorem XI {g:Grf} (h:F8 g=0):∀e∈g.es,InB e:=by
 obtain⟨⟨_,h1⟩,_,h2,_⟩:=XH h
 intro e he
 have:=AL7 h2 e he
 simp only[InB];omega
theorem AQX {g:Grf} (h:F8 g=0):(N9 g.es).Perm g.es∧(N9 g.es).Pairwise kLt:=⟨Uw (XI h),Y8 (XI h) (XH h).2.2.2⟩
def GH (g:Grf):Grf:=if F8 g=0 then⟨g.n,N9 g.es⟩else⟨0,[]⟩
end
section
open Go AM
theorem Y9 {f:FuncId} {id:Nat} {p:List Nat} {t:TypeId} {cs vs h h':List V} {v r:V} (he:CX.ext f=false) (hp:CX.pure f=false) (hh:h[id]?=some v) (haw:BM id (h.set id void)=true)
 (hx:V.away id (.clo f cs)=true) (hv:BM id vs=true) (hr:r.away id=true) (ha2:BM id h'=true) (hlt:id<h'.length) (e:Cl f (AP (vs++cs)) (h.set id void)=some (r,h')) (k:V→List V→Rv) (hs:(CX.seq f).1=0:=by kernel_rfl):
 Dt P CX W (some (.ref id p t)) (.clo f cs) vs h k=k r (h'.set id v):=by
 simp only[Dt,hh,haw,hv,hx]
 rw[if_pos (show(true&&true&&true)=true from rfl),FC _ he hp hs]
 refine(AA e _).trans ?_
 rw[if_pos (by rw[hr,ha2];simp only[Bool.true_and];exact Nat.ble_eq_true_of_le hlt)]
theorem AAr (a b:V) (l:List Ed.Edg):Cl 97 [GR .sh l] [a,b]=some (.clo 124 [.ref 2 [] 22],[a,b,GR .sh l]):=by
 rw[AHK]
 simp(disch:=first|assumption|omega|(with_reducible rfl)|(simp only[go_sem];done)|(simp only[go_sem];omega)|fail) only[↓reduceIte,↓AO,Nat.reduceAdd,go_sem]
 rfl
theorem ZA (a b:V) {l:List Ed.Edg} (hl:l.length≤1000000):Cl 122 [.clo 124 [.ref 2 [] 22]] [a,b,GR .sh l]=some (Ed.winM 3 l.length,[a,b,GR .sh l,Ed.rowM l.toArray]):=by
 rw[ACV]
 have ap:Z5 124 52 [.lst 52 .nil [],.clo 124 [.ref 2 [] 22]] [a,b,GR .sh l]=some (Ed.winM 3 l.length,[a,b,GR .sh l,Ed.rowM l.toArray]):=by
  simp only[Z5,List.getElem?_cons_succ,List.getElem?_cons_zero,AIC,List.length_map]
  rw[if_pos (by simp[EI,Nat.ble_eq];omega)]
  simp[Ed.winM,Ed.rowM]
 rw[ap];rfl
theorem ZB (a b:V) {l:List Ed.Edg} (hl:l.length≤1000000):Cl 96 [.clo 124 [.ref 2 [] 22],Ed.cm] [a,b,GR .sh l]=some (GR .sh (CZ l),[a,b,GR .sh l]):=by
 have c:=ZA a b hl
 have s:Z5 1000098 52 [Ed.winM 3 l.length,Ed.cm] [a,b,GR .sh l,Ed.rowM l.toArray]=some (.tup [],[a,b,GR .sh l,Ed.rowM (CZ l).toArray]):=Ed.sort_aps rfl hl
 have ct:Ai [a,b,GR .sh l,Ed.rowM (CZ l).toArray] (Ed.winM 3 l.length)=some ((CZ l).map Ed.vEdg):=by
  simp[Ai,Ed.winM,rd,V.at,V.items,Ed.rowM]
  rw[←KG l];exact List.take_of_length_le (by simp)
 have cl:AU ((CZ l).map Ed.vEdg)=true:=Nl (DC (fun _=>rfl) _)
 have nl:AP ((CZ l).map Ed.vEdg)=(CZ l).map Ed.vEdg:=MI (DC (fun _=>rfl) _)
 have fin:AQ 3 [a,b,GR .sh l,Ed.rowM (CZ l).toArray] (Ed.winM 3 l.length)=some (GR .sh (CZ l),[a,b,GR .sh l]):=by
  have u:(Ed.winM 3 l.length).unmut [a,b,GR .sh l,Ed.rowM (CZ l).toArray]=GR .sh (CZ l):=by
   rw[Ed.winM]at ct⊢
   simp only[V.unmut,ct,cl,nl,if_true]
  simp only[AQ,u];rfl
 rw[AHJ]
 refine(AA c _).trans ?_
 refine(AA s _).trans ?_
 exact fin
abbrev zG:V:= .agg 23 [.int .i64 0,.lst 52 .nil []]
theorem AL8 {g:Grf} (hl:g.es.length<1000000):Cl 126 [vG .sh g] []=some (.tup [vG .sh (GH g),.int .i64 (F8 g)],[]):=by
 have ck:=Us hl
 by_cases hc:F8 g=0
 ·have hin:=XI hc
  have hv:=ATW hin
  have hsv:=AQV g.es
  rw[hc]at ck⊢
  rw[GH,if_pos hc]
  simp only[vG,hsv,←hv]at ck⊢
  have hlt:(g.es.map toE).length≤1000000:=by simp;omega
  generalize g.es.map toE=l at*
  have c1:∀(x:V) (k:V→List V→Rv),x.away 0=true→Dt P CX W (some (.ref 0 [] 24)) (.clo 97 []) [GR .sh l] [x,zG] k=k (.clo 124 [.ref 2 [] 22]) [x,zG,GR .sh l]:=by
   intro x k hx
   exact Y9 (h:=[x,zG]) (h':=[void,zG,GR .sh l]) (r:= .clo 124 [.ref 2 [] 22]) (id:=0) (by kernel_rfl) (by kernel_rfl) (v:=x) rfl rfl rfl rfl rfl rfl (Nat.zero_lt_succ _) (by rw[List.append_nil,MI (show Iu [GR .sh l]=true by simp only[Iu,V.pl,ADH];rfl)];exact AAr void zG l) k
  have c2:∀(x:V) (k:V→List V→Rv),x.away 0=true→Dt P CX W (some (.ref 0 [] 24)) (.clo 96 []) [.clo 124 [.ref 2 [] 22],Ed.cm] [x,zG,GR .sh l] k=k (GR .sh (CZ l)) [x,zG,GR .sh l]:=by
   intro x k hx
   exact Y9 (h:=[x,zG,GR .sh l]) (h':=[void,zG,GR .sh l]) (r:=GR .sh (CZ l)) (id:=0) (by kernel_rfl) (by kernel_rfl) (v:=x) rfl rfl rfl rfl ((V.PF _ (show(GR .sh (CZ l)).pl=true by simp only[V.pl,ADH])).away 0) rfl (Nat.zero_lt_succ _) (ZB void zG hlt) k
  generalize CZ l=s at*
  rw[ACW]
  have sb:Du (.ref 0 [] 24) (.ref 0 [0] 3)=true:=rfl
  (repeat' with_reducible first|refine(CO _ _).trans ?_|refine(CV _ _).trans ?_|refine(AO _ _).trans ?_|((first|(refine' (AA ?_ _).trans ?_;rotate_left)|refine(if_pos ?_).trans ?_|refine(BL ?_ _ _).trans ?_);focus (first|rfl|(simp(disch:=first|assumption|omega|with_reducible rfl|(simp only[go_sem]<;>omega)|fail) only[↓reduceIte,↓AO,Nat.reduceAdd,go_sem,Bool.not_true,Bool.not_false,ck,sb]<;>first|rfl|omega)|assumption|omega))|(refine(BA ?_ _ _).trans ?_;focus (first|(simp(disch:=first|assumption|omega|with_reducible rfl|(simp only[go_sem]<;>omega)|fail) only[↓reduceIte,↓AO,Nat.reduceAdd,go_sem,Bool.not_true,Bool.not_false,ck,sb]<;>omega)|assumption|omega))|fail)
  refine(c1 _ _ rfl).trans ?_
  refine(c2 _ _ rfl).trans ?_
  (repeat' with_reducible first|refine(CO _ _).trans ?_|refine(CV _ _).trans ?_|refine(AO _ _).trans ?_|((first|(refine' (AA ?_ _).trans ?_;rotate_left)|refine(if_pos ?_).trans ?_|refine(BL ?_ _ _).trans ?_);focus (first|rfl|(simp(disch:=first|assumption|omega|with_reducible rfl|(simp only[go_sem]<;>omega)|fail) only[↓reduceIte,↓AO,Nat.reduceAdd,go_sem,Bool.not_true,Bool.not_false,ck]<;>first|rfl|omega)|assumption|omega))|(refine(BA ?_ _ _).trans ?_;focus (first|(simp(disch:=first|assumption|omega|with_reducible rfl|(simp only[go_sem]<;>omega)|fail) only[↓reduceIte,↓AO,Nat.reduceAdd,go_sem,Bool.not_true,Bool.not_false,ck]<;>omega)|assumption|omega))|fail)
  rfl
 ·rw[GH,if_neg hc,ACW]
  generalize F8 g=e at*
  (repeat' with_reducible first|refine(CO _ _).trans ?_|refine(CV _ _).trans ?_|refine(AO _ _).trans ?_|((first|(refine' (AA ?_ _).trans ?_;rotate_left)|refine(if_pos ?_).trans ?_|refine(BL ?_ _ _).trans ?_);focus (first|rfl|(simp(disch:=first|assumption|omega|with_reducible rfl|(simp only[go_sem]<;>omega)|fail) only[↓reduceIte,↓AO,Nat.reduceAdd,go_sem,Bool.not_true,Bool.not_false,ck]<;>first|rfl|omega)|assumption|omega))|(refine(BA ?_ _ _).trans ?_;focus (first|(simp(disch:=first|assumption|omega|with_reducible rfl|(simp only[go_sem]<;>omega)|fail) only[↓reduceIte,↓AO,Nat.reduceAdd,go_sem,Bool.not_true,Bool.not_false,ck]<;>omega)|assumption|omega))|fail)
  rfl
end
section
open Go AM
theorem AL9 (e:E0) (v:Int) (a c d x:V):Cl 104 [EX e,.ref 1 [] 3] [a,.int .i64 v,c,d,x]=some (.bool (decide (e.fr=v)),[a,.int .i64 v,c,d,x]):=by
 rw[AKb]
 simp only[EX]
 (repeat' with_reducible first|refine(CO _ _).trans ?_|refine(CV _ _).trans ?_|refine(AO _ _).trans ?_|((first|(refine' (AA ?_ _).trans ?_;rotate_left)|refine(if_pos ?_).trans ?_|refine(BL ?_ _ _).trans ?_);focus (first|rfl|(simp(disch:=first|assumption|omega|with_reducible rfl|(simp only[go_sem]<;>omega)|fail) only[↓reduceIte,↓AO,Nat.reduceAdd,go_sem,Bool.not_true,Bool.not_false]<;>first|rfl|omega)|assumption|omega))|(refine(BA ?_ _ _).trans ?_;focus (first|(simp(disch:=first|assumption|omega|with_reducible rfl|(simp only[go_sem]<;>omega)|fail) only[↓reduceIte,↓AO,Nat.reduceAdd,go_sem,Bool.not_true,Bool.not_false]<;>omega)|assumption|omega))|fail)
 rfl
def AIM (F:V) (v:Int) (p:E0→Bool):Prop:=(∀n,2≤n→F.under n=true)∧(∀(e:E0) (a c d x:V) (k:V→List V→Rv),BH P CX W F [EX e] [a,.int .i64 v,c,d,x] k=k (.bool (p e)) [a,.int .i64 v,c,d,x])
theorem AVp (v:Int):AIM (.clo 104 [.ref 1 [] 3]) v (fun e=>decide (e.fr=v)):=
 ⟨fun n h=>by simp only[V.under,Aa,Bool.and_true];exact decide_eq_true (by omega),fun e a c d x k=>Ny k (by kernel_rfl) (by kernel_rfl) (AL9 e v a c d x)⟩
theorem ZC (p:E0→Bool) {es:List E0} {i:Nat} (h:i<es.length):(es.take (i+1)).filter p=if p es[i]=true then(es.take i).filter p++[es[i]]else(es.take i).filter p:=by
 rw[←List.take_append_getElem h,List.filter_append]
 by_cases hp:p es[i]=true
 ·rw[if_pos hp,List.filter_cons,if_pos hp];rfl
 ·rw[if_neg hp,List.filter_cons,if_neg hp,List.filter_nil,List.append_nil]
theorem AMA {F:V} {v:Int} {p:E0→Bool} (hF:AIM F v p) {es:List E0} (hl:es.length<1000000) (a c d:V):∀(n i:Nat) (f:Fl),(f= .own∨f= .nil)→i+n=es.length→
 MG F (.lst 52 f (((es.take i).filter p).map EX)) (.lst 52 .sh (es.map EX)) (.int .i64 (es.length:Int)) (.int .i64 (i:Int)) 2 [a,.int .i64 v,c,d]=some (.lst 52 .sh ((es.filter p).map EX),[a,.int .i64 v]):=by
 obtain⟨hu,hc⟩:=hF
 intro n
 induction n with
 |zero=>
  intro i f hf hi
  rw[List.take_of_length_le (by omega),LY]
  generalize es.filter p=r at*
  rcases hf with rfl|rfl
  all_goals (repeat' with_reducible first|refine(CO _ _).trans ?_|refine(CV _ _).trans ?_|refine(AO _ _).trans ?_|((first|(refine' (AA ?_ _).trans ?_;rotate_left)|refine(if_pos ?_).trans ?_|refine(BL ?_ _ _).trans ?_);focus (first|rfl|(simp(disch:=first|assumption|omega|with_reducible rfl|(simp only[go_sem]<;>omega)|fail) only[↓reduceIte,↓AO,Nat.reduceAdd,go_sem,Bool.not_true,Bool.not_false]<;>first|rfl|omega)|assumption|omega))|(refine(BA ?_ _ _).trans ?_;focus (first|(simp(disch:=first|assumption|omega|with_reducible rfl|(simp only[go_sem]<;>omega)|fail) only[↓reduceIte,↓AO,Nat.reduceAdd,go_sem,Bool.not_true,Bool.not_false]<;>omega)|assumption|omega))|fail)
  all_goals rfl
 |succ n ih=>
  intro i f hf hi
  have h:i<es.length:=by omega
  have hx:=Yu h
  have hle:((es.take i).filter p).length≤i:=Nat.le_trans (List.length_filter_le _ _) (by rw[List.length_take];omega)
  have tf:=ZC p h
  have hu4:=hu 4 (by omega)
  have hcx:=fun x k=>hc es[i] a c d x k
  by_cases hp:p es[i]=true
  ·have ih':=ih (i+1) .own (Or.inl rfl) (by omega)
   rw[tf,if_pos hp,List.map_append]at ih'
   rw[←ih',LY]
   clear ih ih' tf
   rw[hp]at hcx
   generalize (es.take i).filter p=done at*
   generalize es[i]=y at*
   rcases hf with rfl|rfl
   all_goals (repeat' with_reducible first|refine(CO _ _).trans ?_|refine(CV _ _).trans ?_|refine(AO _ _).trans ?_|((first|(refine' (AA ?_ _).trans ?_;rotate_left)|refine(if_pos ?_).trans ?_|refine(BL ?_ _ _).trans ?_);focus (first|rfl|(simp(disch:=first|assumption|omega|with_reducible rfl|(simp only[go_sem]<;>omega)|fail) only[↓reduceIte,↓AO,Nat.reduceAdd,go_sem,Bool.not_true,Bool.not_false,hx,hu4]<;>first|rfl|omega)|assumption|omega))|(refine(BA ?_ _ _).trans ?_;focus (first|(simp(disch:=first|assumption|omega|with_reducible rfl|(simp only[go_sem]<;>omega)|fail) only[↓reduceIte,↓AO,Nat.reduceAdd,go_sem,Bool.not_true,Bool.not_false,hx,hu4]<;>omega)|assumption|omega))|fail)
   all_goals refine(hcx _ _).trans ?_
   all_goals (repeat' with_reducible first|refine(CO _ _).trans ?_|refine(CV _ _).trans ?_|refine(AO _ _).trans ?_|((first|(refine' (AA ?_ _).trans ?_;rotate_left)|refine(if_pos ?_).trans ?_|refine(BL ?_ _ _).trans ?_);focus (first|rfl|(simp(disch:=first|assumption|omega|with_reducible rfl|(simp only[go_sem]<;>omega)|fail) only[↓reduceIte,↓AO,Nat.reduceAdd,go_sem,Bool.not_true,Bool.not_false,hx,hu4]<;>first|rfl|omega)|assumption|omega))|(refine(BA ?_ _ _).trans ?_;focus (first|(simp(disch:=first|assumption|omega|with_reducible rfl|(simp only[go_sem]<;>omega)|fail) only[↓reduceIte,↓AO,Nat.reduceAdd,go_sem,Bool.not_true,Bool.not_false,hx,hu4]<;>omega)|assumption|omega))|fail)
   all_goals rfl
  ·have ih':=ih (i+1) f hf (by omega)
   rw[tf,if_neg hp]at ih'
   rw[←ih',LY]
   clear ih ih' tf
   rw[Bool.not_eq_true]at hp
   rw[hp]at hcx
   generalize (es.take i).filter p=done at*
   generalize es[i]=y at*
   rcases hf with rfl|rfl
   all_goals (repeat' with_reducible first|refine(CO _ _).trans ?_|refine(CV _ _).trans ?_|refine(AO _ _).trans ?_|((first|(refine' (AA ?_ _).trans ?_;rotate_left)|refine(if_pos ?_).trans ?_|refine(BL ?_ _ _).trans ?_);focus (first|rfl|(simp(disch:=first|assumption|omega|with_reducible rfl|(simp only[go_sem]<;>omega)|fail) only[↓reduceIte,↓AO,Nat.reduceAdd,go_sem,Bool.not_true,Bool.not_false,hx,hu4]<;>first|rfl|omega)|assumption|omega))|(refine(BA ?_ _ _).trans ?_;focus (first|(simp(disch:=first|assumption|omega|with_reducible rfl|(simp only[go_sem]<;>omega)|fail) only[↓reduceIte,↓AO,Nat.reduceAdd,go_sem,Bool.not_true,Bool.not_false,hx,hu4]<;>omega)|assumption|omega))|fail)
   all_goals refine(hcx _ _).trans ?_
   all_goals (repeat' with_reducible first|refine(CO _ _).trans ?_|refine(CV _ _).trans ?_|refine(AO _ _).trans ?_|((first|(refine' (AA ?_ _).trans ?_;rotate_left)|refine(if_pos ?_).trans ?_|refine(BL ?_ _ _).trans ?_);focus (first|rfl|(simp(disch:=first|assumption|omega|with_reducible rfl|(simp only[go_sem]<;>omega)|fail) only[↓reduceIte,↓AO,Nat.reduceAdd,go_sem,Bool.not_true,Bool.not_false,hx,hu4]<;>first|rfl|omega)|assumption|omega))|(refine(BA ?_ _ _).trans ?_;focus (first|(simp(disch:=first|assumption|omega|with_reducible rfl|(simp only[go_sem]<;>omega)|fail) only[↓reduceIte,↓AO,Nat.reduceAdd,go_sem,Bool.not_true,Bool.not_false,hx,hu4]<;>omega)|assumption|omega))|fail)
   all_goals rfl
theorem AEI (g:Grf):(GH g).es.length≤g.es.length:=by
 rw[GH];split
 ·simp only[Y7];exact Nat.le_refl _
 ·exact Nat.zero_le _
theorem AMB {g:Grf} (hl:g.es.length<1000000) {F:V} {v:Int} {p:E0→Bool} (hF:AIM F v p) (a:V):Cl 103 [vG .sh g,F] [a,.int .i64 v]=some (.lst 52 .sh (((GH g).es.filter p).map EX),[a,.int .i64 v]):=by
 have nm:=AL8 hl
 have hn:=AEI g
 have h0:=AMA hF (es:=(GH g).es) (by omega) a (vG .sh g) (vG .sh (GH g)) (GH g).es.length 0 .nil (Or.inr rfl) (by omega)
 rw[List.take_zero,List.filter_nil,List.map_nil]at h0
 rw[←h0,AKa]
 generalize GH g=m at*
 generalize F8 g=e at*
 (repeat' with_reducible first|refine(CO _ _).trans ?_|refine(CV _ _).trans ?_|refine(AO _ _).trans ?_|((first|(refine' (AA ?_ _).trans ?_;rotate_left)|refine(if_pos ?_).trans ?_|refine(BL ?_ _ _).trans ?_);focus (first|rfl|(simp(disch:=first|assumption|omega|with_reducible rfl|(simp only[go_sem]<;>omega)|fail) only[↓reduceIte,↓AO,Nat.reduceAdd,go_sem,Bool.not_true,Bool.not_false,nm]<;>first|rfl|omega)|assumption|omega))|(refine(BA ?_ _ _).trans ?_;focus (first|(simp(disch:=first|assumption|omega|with_reducible rfl|(simp only[go_sem]<;>omega)|fail) only[↓reduceIte,↓AO,Nat.reduceAdd,go_sem,Bool.not_true,Bool.not_false,nm]<;>omega)|assumption|omega))|fail)
 rfl
theorem AQY {g:Grf} (hl:g.es.length<1000000) (v:Int):Cl 67 [vG .sh g,.int .i64 v] []=some (.lst 52 .sh (((GH g).es.filter fun e=>decide (e.fr=v)).map EX),[]):=by
 have h:=AMB hl (AVp v) (vG .sh g)
 rw[AO2]
 (repeat' with_reducible first|refine(CO _ _).trans ?_|refine(CV _ _).trans ?_|refine(AO _ _).trans ?_|((first|(refine' (AA ?_ _).trans ?_;rotate_left)|refine(if_pos ?_).trans ?_|refine(BL ?_ _ _).trans ?_);focus (first|rfl|(simp(disch:=first|assumption|omega|with_reducible rfl|(simp only[go_sem]<;>omega)|fail) only[↓reduceIte,↓AO,Nat.reduceAdd,go_sem,Bool.not_true,Bool.not_false,h]<;>first|rfl|omega)|assumption|omega))|(refine(BA ?_ _ _).trans ?_;focus (first|(simp(disch:=first|assumption|omega|with_reducible rfl|(simp only[go_sem]<;>omega)|fail) only[↓reduceIte,↓AO,Nat.reduceAdd,go_sem,Bool.not_true,Bool.not_false,h]<;>omega)|assumption|omega))|fail)
 rfl
end
section
open Go AM
def mxA (v:Nat):Nat:=v*2654435761%4294967296
def mxB (a:Nat):Nat:=a ^^^ (a/32768)
def mxC (b:Nat):Nat:=b*2246822519%4294967296
def mxD (c:Nat):Nat:=c ^^^ (c/8192)
def mixN (v:Nat):Nat:=mxD (mxC (mxB (mxA v)))
theorem AQZ (v:Nat):mxA v<4294967296:=Nat.mod_lt _ (by omega)
theorem AQa (v:Nat):mxC v<4294967296:=Nat.mod_lt _ (by omega)
theorem ZE {a:Nat} (h:a<4294967296) (k:Nat):a/k<4294967296:=Nat.lt_of_le_of_lt (Nat.div_le_self a k) h
theorem ANj (a c:Nat):AL .mul (.int .u32 (a:Int)) (.int .u32 (c:Int))=some (.int .u32 ((a*c%4294967296:Nat):Int)):=by
 rw[RG,←Int.natCast_mul,Io]
theorem ANk {a:Nat} (h:a<4294967296) (k:Nat) (hk:k≤32):AL .shr (.int .u32 (a:Int)) (.int .u64 (k:Int))=some (.int .u32 ((a/2^k:Nat):Int)):=by
 have e:(min (k:Int).toNat IntKind.u32.bits)=k:=by simp only[IntKind.bits,Int.toNat_natCast];omega
 have h2:=Nat.div_le_self a (2^k)
 have e2:((2:Int)^k)=((2^k:Nat):Int):=by simp
 rw[UQ _ _ _ _ (by omega),e,e2,Int.fdiv_eq_ediv_of_nonneg _ (Int.natCast_nonneg _),←Int.natCast_ediv]
@[go_sem] theorem m1 (a:Nat):AL .mul (.int .u32 (a:Int)) (.int .u32 2654435761)=some (.int .u32 (mxA a:Int)):=ANj a 2654435761
@[go_sem] theorem m2 (a:Nat):AL .mul (.int .u32 (a:Int)) (.int .u32 2246822519)=some (.int .u32 (mxC a:Int)):=ANj a 2246822519
theorem s15 {a:Nat} (h:a<4294967296):AL .shr (.int .u32 (a:Int)) (.int .u64 15)=some (.int .u32 ((a/32768:Nat):Int)):=ANk h 15 (by omega)
theorem s13 {a:Nat} (h:a<4294967296):AL .shr (.int .u32 (a:Int)) (.int .u64 13)=some (.int .u32 ((a/8192:Nat):Int)):=ANk h 13 (by omega)
theorem AQb (v:Nat):Cl 100 [.int .u32 (v:Int)] []=some (.int .u32 (mixN v:Int),[]):=by
 have a1:=AQZ v
 have b1:=AQa (mxB (mxA v))
 have x1:AL .xor (.int .u32 (mxA v:Int)) (.int .u32 ((mxA v/32768:Nat):Int))=some (.int .u32 (mxB (mxA v):Int)):=u32_xor a1 (ZE a1 _)
 have x2:AL .xor (.int .u32 (mxC (mxB (mxA v)):Int)) (.int .u32 ((mxC (mxB (mxA v))/8192:Nat):Int))=some (.int .u32 (mixN v:Int)):=u32_xor b1 (ZE b1 _)
 rw[AKX]
 simp(disch:=first|assumption|omega|(with_reducible rfl)|(simp only[go_sem];done)|(simp only[go_sem];omega)|fail) only[↓reduceIte,↓AO,Nat.reduceAdd,go_sem,s15 a1,x1,s13 b1,x2]
theorem ATY {a c:Nat} (h:a*c<18446744073709551616):AL .mul (.int .u64 (a:Int)) (.int .u64 (c:Int))=some (.int .u64 ((a*c:Nat):Int)):=by
 rw[RG,←Int.natCast_mul,wrap_u64 (by omega) (by omega)]
theorem k1 {v:Nat} (h:v<4294967296) (K:V→Rv):((AL .mul (.int .u64 (v:Int)) (.int .u64 2654435761)).bind fun t=>(AL .rem t (.int .u64 4294967296)).bind K)=K (.int .u64 (mxA v:Int)):=
 (AA (ATY (a:=v) (c:=2654435761) (by omega)) _).trans (AA (AK5 (a:=v*2654435761) (b:=4294967296) (by omega) .u64) _)
theorem k2 {v:Nat} (h:v<4294967296) (K:V→Rv):((AL .mul (.int .u64 (v:Int)) (.int .u64 2246822519)).bind fun t=>(AL .rem t (.int .u64 4294967296)).bind K)=K (.int .u64 (mxC v:Int)):=
 (AA (ATY (a:=v) (c:=2246822519) (by omega)) _).trans (AA (AK5 (a:=v*2246822519) (b:=4294967296) (by omega) .u64) _)
def ownN (v n:Nat):Nat:=mixN v%n
theorem ZF {v n:Nat} (hv:v<1000) (h1:1≤n) (h2:n≤64):Cl 57 [.int .i64 (v:Int),.int .i64 (n:Int)] []=some (.int .i64 (ownN v n:Int),[]):=by
 have hm:=AQb v
 have cv1:Kr .u32 (.int .i64 (v:Int))=some (.int .u32 (v:Int)):=by rw[Kr,wrap_u32 (by omega) (by omega)]
 have cv2:Kr .u32 (.int .i64 (n:Int))=some (.int .u32 (n:Int)):=by rw[Kr,wrap_u32 (by omega) (by omega)]
 have r:=AK5 (a:=mixN v) (b:=n) (by omega) .u32
 have hl:mixN v%n<n:=Nat.mod_lt _ (by omega)
 rw[ownN,AOv]
 simp(disch:=first|assumption|omega|(with_reducible rfl)|(simp only[go_sem];done)|(simp only[go_sem];omega)|fail) only[↓reduceIte,↓AO,Nat.reduceAdd,go_sem,cv1,cv2,hm,r]
def ofL (n N w:Nat):List Nat:=(List.range n).filter fun v=>decide (ownN v N=w)
theorem ZG (n N w:Nat):ofL (n+1) N w=if ownN n N=w then ofL n N w++[n]else ofL n N w:=by
 simp only[ofL,List.range_succ,List.filter_append,List.filter_cons,List.filter_nil]
 by_cases h:ownN n N=w<;>simp[h]
theorem Rw {n N w v:Nat} (h:v∈ofL n N w):v<n:=by
 simp only[ofL,List.mem_filter,List.mem_range]at h;exact h.1
theorem MR (n N w:Nat):(ofL n N w).length≤n:=by
 have:=List.length_filter_le (fun v=>decide (ownN v N=w)) (List.range n)
 simpa [ofL]using this
attribute [irreducible] mixN ownN ofL
abbrev TS (f:Fl) (l:List Nat):V:= .lst 3 f (l.map fun(v:Nat)=>V.int .i64 (v:Int))
@[go_sem] theorem ATZ (l:List Nat):Iu (l.map fun(v:Nat)=>V.int .i64 (v:Int))=true:=DC (fun _=>rfl) l
@[go_sem] theorem ATa (l:List Nat):(l.map fun(v:Nat)=>V.int .i64 (v:Int)).all (tyI .i64)=true:=all_map (fun _=>rfl) l
theorem AIN (f:Fl) (l:List Nat) (v:Nat):TS f (l++[v])= .lst 3 f ((l.map fun(v:Nat)=>V.int .i64 (v:Int))++[.int .i64 (v:Int)]):=by simp[TS]
theorem AQc {v N w:Nat} (hv:v<1000) (h1:1≤N) (h2:N≤64):Cl 56 [.int .i64 (v:Int),.ref 0 [] 3,.ref 1 [] 3] [.int .i64 (N:Int),.int .i64 (w:Int)]=some (.bool (decide (ownN v N=w)),[.int .i64 (N:Int),.int .i64 (w:Int)]):=by
 have ho:=ZF hv h1 h2
 have e:decide ((ownN v N:Int)=(w:Int))=decide (ownN v N=w):=decide_eq_decide.2 (by omega)
 rw[AOu]
 simp(disch:=first|assumption|omega|(with_reducible rfl)|(simp only[go_sem];done)|(simp only[go_sem];omega)|fail) only[↓reduceIte,↓AO,Nat.reduceAdd,go_sem,ho,e]
theorem AVq {v N w:Nat} (hv:v<1000) (h1:1≤N) (h2:N≤64) (k:V→List V→Rv):BH P CX W (.clo 56 [.ref 0 [] 3,.ref 1 [] 3]) [.int .i64 (v:Int)] [.int .i64 (N:Int),.int .i64 (w:Int)] k=k (.bool (decide (ownN v N=w))) [.int .i64 (N:Int),.int .i64 (w:Int)]:=
 Ny k (by kernel_rfl) (by kernel_rfl) (AQc hv h1 h2)
theorem AQd {n N w:Nat} (hn:n≤64) (h1:1≤N) (h2:N≤64):∀(m i:Nat) (f:Fl),i+m=n→(f= .own∨f= .nil)→
 QT (.clo 56 [.ref 0 [] 3,.ref 1 [] 3]) (TS f (ofL i N w)) (.int .i64 (n:Int)) (.int .i64 (i:Int)) [.int .i64 (N:Int),.int .i64 (w:Int)]=some (.tup [TS .sh (ofL n N w),.int .i64 0],[]):=by
 intro m
 induction m with
 |zero=>
  intro i f hi hf
  obtain rfl:i=n:=by omega
  rw[Tz]
  rcases hf with rfl|rfl
  ·simp(disch:=first|assumption|omega|(with_reducible rfl)|(simp only[go_sem];done)|(simp only[go_sem];omega)|fail) only[↓reduceIte,↓AO,Nat.reduceAdd,go_sem]
  ·simp(disch:=first|assumption|omega|(with_reducible rfl)|(simp only[go_sem];done)|(simp only[go_sem];omega)|fail) only[↓reduceIte,↓AO,Nat.reduceAdd,go_sem]
 |succ m ih=>
  intro i f hi hf
  have hl:=MR i N w
  have hv:=AIN .own (ofL i N w) i
  have h:=AVq (v:=i) (N:=N) (w:=w) (by omega) h1 h2
  rw[Tz]
  by_cases ho:ownN i N=w
  ·have:=ih (i+1) .own (by omega) (Or.inl rfl)
   rw[ZG,if_pos ho]at this
   rcases hf with rfl|rfl
   ·simp(disch:=first|assumption|omega|(with_reducible rfl)|(simp only[go_sem];done)|(simp only[go_sem];omega)|fail) only[↓reduceIte,↓AO,Nat.reduceAdd,go_sem,h,decide_eq_true ho]
    rw[hv]at this;exact this
   ·simp(disch:=first|assumption|omega|(with_reducible rfl)|(simp only[go_sem];done)|(simp only[go_sem];omega)|fail) only[↓reduceIte,↓AO,Nat.reduceAdd,go_sem,h,decide_eq_true ho]
    rw[hv]at this;exact this
  ·have:=ih (i+1) f (by omega) hf
   rw[ZG,if_neg ho]at this
   simp(disch:=first|assumption|omega|(with_reducible rfl)|(simp only[go_sem];done)|(simp only[go_sem];omega)|fail) only[↓reduceIte,↓AO,Nat.reduceAdd,go_sem,h,decide_eq_false ho]
   exact this
theorem AAs {n N w:Nat} (h0:1≤n) (hn:n≤64) (h1:1≤N) (h2:N≤64) (hw:w<N):Cl 21 [.int .i64 (n:Int),.int .i64 (N:Int),.int .i64 (w:Int)] []=some (.tup [TS .sh (ofL n N w),.int .i64 0],[]):=by
 have h:=AQd (w:=w) hn h1 h2 n 0 .nil (by omega) (Or.inr rfl)
 have r:Cl 55 [.int .i64 (n:Int),.int .i64 (N:Int)] []=some (.bool true,[]):=by
  rw[AOt]
  simp(disch:=first|assumption|omega|(with_reducible rfl)|(simp only[go_sem];done)|(simp only[go_sem];omega)|fail) only[↓reduceIte,↓AO,Nat.reduceAdd,go_sem]
  rw[decide_eq_true (by omega)]
 have z:TS .nil (ofL 0 N w)= .lst 3 .nil []:=by simp[ofL]
 rw[z]at h
 rw[←h,AOZ]
 simp(disch:=first|assumption|omega|(with_reducible rfl)|(simp only[go_sem];done)|(simp only[go_sem];omega)|fail) only[↓reduceIte,↓AO,Nat.reduceAdd,go_sem,r]
 rfl
end
section
open Go AM
theorem rb {R:Rv→Prop} {A:Type} {o:Option A} {x:A} (h:o=some x) {K:A→Rv} (q:R (K x)):R (o.bind K):=by rw[h];exact q
theorem Jd {R:Rv→Prop} {c:Bool} {a b:Rv} (h1:c=true→R a) (h2:c=false→R b):R (V.ite (.bool c) a b):=by cases c;exact h2 rfl;exact h1 rfl
theorem O5 {R:Rv→Prop} {c:Bool} (h:c=true) {K:Rv} (q:R K):R (if c=true then K else none):=by rw[if_pos h];exact q
theorem rjn {R:Rv→Prop} {A:Type} {f:A} {g:A→Rv} (q:R (g f)):R (jn f g):=q
theorem ATb {R:Rv→Prop} {f:FuncId} {cs vs h h':List V} {v:V} {K:V→List V→Rv} (e:Cl f (AP (vs++cs)) h=some (v,h')) (q:R (K v h')) (he:CX.ext f=false:=by kernel_rfl) (hp:CX.pure f=false:=by kernel_rfl) (hs:(CX.seq f).1=0:=by kernel_rfl):R (BH P CX W (.clo f cs) vs h K):=by
 rw[(FC K he hp hs).trans (AA e _)];exact q
theorem Ah {A B:Type} {o:Option A} {x:A} {K:A→Option B} {r:Option B} (h:o=some x) (q:K x=r):o.bind K=r:=by rw[h];exact q
theorem Be {B:Type} {a b r:Option B} (q:a=r):V.ite (.bool true) a b=r:=q
theorem BP {B:Type} {a b r:Option B} (q:b=r):V.ite (.bool false) a b=r:=q
theorem AZ {r:Rv} {A:Type} {o:Option A} {x:A} (h:o=some x) {K:A→Rv} (q:K x=r):o.bind K=r:=by rw[h];exact q
theorem Ae {r:Rv} {c:Bool} (h:c=true) {K:Rv} (q:K=r):(if c=true then K else none)=r:=by rw[if_pos h];exact q
theorem FV {A:Type} {f:A} {g:A→Rv} {r:Rv} (q:g f=r):jn f g=r:=q
theorem DZ {r:Rv} {f:FuncId} {cs vs h h':List V} {v:V} {K:V→List V→Rv} (e:Cl f (AP (vs++cs)) h=some (v,h')) (q:K v h'=r) (he:CX.ext f=false:=by kernel_rfl) (hp:CX.pure f=false:=by kernel_rfl) (hs:(CX.seq f).1=0:=by kernel_rfl):BH P CX W (.clo f cs) vs h K=r:=by
 rw[(FC K he hp hs).trans (AA e _)];exact q
abbrev Iw:V:= .agg Ld [.int .i64 0,.int .i64 0,.bool false,.bool false,.int .i64 0]
def MIn (m:Msg):Prop:=MOk m∧0≤m.to∧m.to<64
def QS (x:Vtx) (K:Rv):Prop:=∃(y:Vtx) (l:List Msg) (e:Int),K=some (.tup [A7 y,BZ .sh l,.int .i64 e],[])∧GZ y∧(e=0→y.id=x.id∧y.has=false)∧(∀m∈l,MIn m)∧l.length≤1000∧(e=0∨70≤e∧e≤71)∧(e=0→0≤x.id→x.id<64→(x.has=false→x.inn=0)→Em y=true)
theorem QS.err {x:Vtx} {e:Int} (he:70≤e∧e≤71) (n:Nat) (H:List V) (hn:n=0) {L:V} (hL:L= .lst 103 .nil []∨L= .lst 103 .sh []):QS x (if(List.all [.int .i64 e,L,Iw] V.okE)=true then AQ n H (V.tup [Iw,L,.int .i64 e])else none):=by
 subst hn
 refine⟨⟨0,0,false,false,0⟩,[],e,?_,by simp[GZ,I64],fun h=>by omega,by simp,by simp,by omega,fun h=>by omega⟩
 rcases hL with rfl|rfl<;>rfl
theorem AEJ (t:List UInt8) (e:E0):∃w,Cl 70 [.str t,EX e] []=some (.int .i64 w,[]):=by
 have es:∀l:List UInt8,AL .eql (.str t) (.str l)=some (.bool (t==l)):=fun l=>rfl
 rw[AO5]
 refine(fun h=>h:(∃w,_=some (V.int .i64 w,[]))→_) ?_
 let R:Rv→Prop:=fun K=>∃w,K=some (V.int .i64 w,[])
 show R _
 refine O5 (R:=R) rfl ?_
 refine rb (R:=R) (es _) ?_
 refine Jd (R:=R) (fun _=> ?_) (fun _=> ?_)
 ·exact⟨e.w,rfl⟩
 ·refine rb (R:=R) (es _) ?_
  refine Jd (R:=R) (fun _=> ?_) (fun _=> ?_)
  ·exact⟨1,rfl⟩
  ·exact⟨0,rfl⟩
section
variable {g:Grf} {j:Job} {x:Vtx}
abbrev hSp (g:Grf) (j:Job) (x:Vtx) (w:Int) (f:Fl) (acc:List Msg) (fl:Bool):List V:=[vG .sh g,vJ j,A7 x,Iw,.int .i64 w,.lst 103 f (acc.map Ac),.bool fl]
abbrev cSp:V:= .clo 69 [.ref 2 [] 70,.ref 4 [] 2,.ref 1 [] 26,.ref 6 [] 4,.ref 5 [] 36]
theorem AMC (w:Int) {f:Fl} (hf:f= .own∨f= .nil) {acc:List Msg} (hacc:acc.length≤1000) (ha0:f= .nil→acc=[]) (fl:Bool) (hid:I64 x.id) {e:E0} (he:0≤e.to∧e.to<64):∃(m:Msg) (fl':Bool),(MIn m∧(fl'=false→fl=false))∧
 Cl 69 [EX e,.ref 2 [] 70,.ref 4 [] 2,.ref 1 [] 26,.ref 6 [] 4,.ref 5 [] 36] (hSp g j x w f acc fl++[EX e])=
  some (.tup [],hSp g j x w .own (acc++[m]) fl'++[EX e]):=by
 obtain⟨u,hu⟩:=AEJ j.tag e
 have ad:=Bq .i64 w u
 have hz:=XG (w+u)
 generalize IntKind.wrap .i64 (w+u)=z at*
 have gr:=Ib z
 rw[AO4]
 let m:Msg:=⟨x.id,e.to,z⟩
 have ap:∀h:List V,FU 103 (tyG 102) false h (.lst 103 f (acc.map Ac)) (.lst 103 .own [Ac m])=some (.lst 103 .own ((acc++[m]).map Ac)):=fun h=>by
  have cl:AU [Ac m]=true:=rfl
  have ty:[Ac m].all (tyG 102)=true:=rfl
  rw[List.map_append]
  rcases hf with rfl|rfl
  ·rw[Bj cl ty (by simp;omega)];rfl
  ·rw[ha0 rfl,List.map_nil,Bf cl ty (by simp)];rfl
 have tk:∀b:Bool,BR ([vG .sh g,vJ j,A7 x,Iw,.int .i64 w,.lst 103 f (acc.map Ac),.bool b]++[EX e]++[EX e]++[Ac m]) 36 (.ref 5 [] 36)=some (.lst 103 f (acc.map Ac),[vG .sh g,vJ j,A7 x,Iw,.int .i64 w,V.weak (.lst 103 f (acc.map Ac)),.bool b]++[EX e]++[EX e]++[Ac m]):=fun b=>rfl
 have fin:∀b:Bool,(DJ (tyL 103) 36 ([vG .sh g,vJ j,A7 x,Iw,.int .i64 w,V.weak (.lst 103 f (acc.map Ac)),.bool b]++[EX e]++[EX e]++[Ac m]) (.ref 5 [] 36) (.lst 103 .own ((acc++[m]).map Ac)))=some (hSp g j x w .own (acc++[m]) b++[EX e]++[EX e]++[Ac m]):=fun b=>rfl
 let R:Rv→Prop:=fun K=>∃(m:Msg) (fl':Bool),(MIn m∧(fl'=false→fl=false))∧K=some (.tup [],hSp g j x w .own (acc++[m]) fl'++[EX e])
 show R _
 have hm:MIn m:=⟨⟨hid,⟨by show(-9223372036854775808:Int)≤e.to;omega,by show e.to<(9223372036854775808:Int);omega⟩,hz⟩,he.1,he.2⟩
 have last:∀b:Bool,(b=false→fl=false)→R ((BR ([vG .sh g,vJ j,A7 x,Iw,.int .i64 w,.lst 103 f (acc.map Ac),.bool b]++[EX e]++[EX e]++[Ac m]) 36 (.ref 5 [] 36)).bind fun r_14=>(AX r_14.2 103 (V.ref 9 [] 103)).bind fun t26_15=>(NU 103 false (ck [(tyG 102) t26_15] [t26_15])).bind fun t27_16=>(FU 103 (tyG 102) false r_14.2 r_14.1 t27_16).bind fun t28_17=>(DJ (tyL 103) 36 r_14.2 (.ref 5 [] 36) t28_17).bind fun h_18=>if(List.all [] V.okE)=true then AQ 8 h_18 (V.tup [])else none):=fun b hb=>by
  refine rb (R:=R) (tk b) ?_
  refine rb (R:=R) (x:=Ac m) rfl ?_
  refine rb (R:=R) (x:=V.lst 103 .own [Ac m]) rfl ?_
  refine rb (R:=R) (ap _) ?_
  refine rb (R:=R) (fin b) ?_
  exact⟨m,b,⟨hm,hb⟩,rfl⟩
 refine O5 (R:=R) rfl ?_
 refine rb (R:=R) rfl ?_
 refine rb (R:=R) rfl ?_
 refine rb (R:=R) rfl ?_
 refine rb (R:=R) rfl ?_
 refine rb (R:=R) rfl ?_
 refine rb (R:=R) rfl ?_
 refine rb (R:=R) rfl ?_
 refine rb (R:=R) rfl ?_
 refine O5 (R:=R) rfl ?_
 refine rb (R:=R) (show _=some (V.int .i64 u,[])from hu) ?_
 refine rb (R:=R) ad ?_
 refine rb (R:=R) rfl ?_
 refine rb (R:=R) rfl ?_
 refine rjn (R:=R) ?_
 refine rb (R:=R) rfl ?_
 refine Jd (R:=R) (fun h=> ?_) (fun h=> ?_)
 ·refine rb (R:=R) rfl ?_
  exact last true (fun h=>by cases h)
 ·refine rb (R:=R) rfl ?_
  refine rb (R:=R) rfl ?_
  refine rb (R:=R) (show _=some (V.bool (Bz z),[])from gr) ?_
  refine rb (R:=R) rfl ?_
  exact last (Bz z) (fun _=>h)
end
end
section
open Go AM
section
variable {g:Grf} {j:Job} {x:Vtx}
theorem step_loop {x0:Vtx} (hx0:x.id=x0.id) (w v:Int) (hv:I64 v) (a s:Bool) (hid:I64 x.id) {es:List E0} (hes:es.length≤600) (hin:∀e∈es,0≤e.to∧e.to<64):∀(m i:Nat) (f:Fl) (acc:List Msg) (fl:Bool),i+m=es.length→acc.length≤i→(f= .own∨f= .nil)→(f= .nil→acc=[])→(∀m∈acc,MIn m)→(fl=false→Bz v=false)→
 QS x0 (Na (.ref 2 [] 70) (.ref 3 [] 70) (.int .i64 v) (.bool a) (.bool s) (.ref 5 [] 36) (.ref 6 [] 4) cSp (.lst 52 .sh (es.map EX)) (.int .i64 (es.length:Int)) (.int .i64 (i:Int)) (hSp g j x w f acc fl)):=by
 intro m
 induction m with
 |zero=>
  intro i f acc fl hi hacc hf hn hok hgr
  have ls:AL .lss (.int .i64 (i:Int)) (.int .i64 (es.length:Int))=some (.bool false):=by rw[b_lss,decide_eq_false (by omega)]
  rw[UB]
  refine rb (R:=QS x0) ls ?_
  refine Jd (R:=QS x0) (fun h=>by cases h) (fun _=> ?_)
  refine rb (R:=QS x0) rfl ?_
  refine Jd (R:=QS x0) (fun _=> ?_) (fun hfl=> ?_)
  ·refine rb (R:=QS x0) rfl ?_
   refine rb (R:=QS x0) rfl ?_
   refine rb (R:=QS x0) rfl ?_
   exact QS.err (by omega) 0 _ rfl (.inl rfl)
  ·refine O5 (R:=QS x0) rfl ?_
   refine rb (R:=QS x0) rfl ?_
   refine rb (R:=QS x0) rfl ?_
   refine rb (R:=QS x0) rfl ?_
   refine O5 (R:=QS x0) rfl ?_
   refine rb (R:=QS x0) rfl ?_
   refine O5 (R:=QS x0) rfl ?_
   refine rb (R:=QS x0) rfl ?_
   refine rb (R:=QS x0) rfl ?_
   refine⟨⟨x.id,v,a,false,0⟩,acc,0,?_,⟨hid,hv,by simp[I64]⟩,fun _=>⟨hx0,rfl⟩,hok,by omega,.inl rfl,fun _ i1 i2 _=> ?_⟩
   rotate_left
   ·have:=hgr hfl
    have g0:Bz 0=false:=by decide
    simp only[Em,this,g0,hx0]
    simp
    omega
   rcases hf with rfl|rfl<;>rfl
 |succ m ih=>
  intro i f acc fl hi hacc hf hn hok hgr
  have h:i<es.length:=by omega
  have ls:AL .lss (.int .i64 (i:Int)) (.int .i64 (es.length:Int))=some (.bool true):=by rw[b_lss,decide_eq_true (by omega)]
  have ix:D9 52 (.lst 52 .sh (es.map EX)) (.int .i64 (i:Int))=some (.rop 52 (EX es[i])):=by
   rw[DL,List.getElem?_map,List.getElem?_eq_getElem h];rfl
  have ad:AL .add (.int .i64 (i:Int)) (.int .i64 1)=some (.int .i64 ((i+1:Nat):Int)):=by rw[Bq,wrap_i64 (by omega) (by omega)];rfl
  have he:=hin _ (List.getElem_mem h)
  obtain⟨mm,fl',⟨hmm,hff⟩,sd⟩:=AMC (g:=g) (j:=j) (x:=x) w hf (acc:=acc) (by omega) hn fl hid he
  have nx1:=ih (i+1) .own (acc++[mm]) fl' (by omega) (by simp;omega) (.inl rfl) (fun h=>by cases h) (fun q hq=>by rcases List.mem_append.1 hq with hq|hq;exact hok q hq;rw[List.mem_singleton]at hq;subst hq;exact hmm) (fun h=>hgr (hff h))
  have nx2:=ih (i+1) f acc fl (by omega) (by omega) hf hn hok hgr
  rw[UB]
  clear ih
  generalize es[i]=e at*
  generalize (i+1:Nat)=i2 at*
  generalize (es.length:Int)=ll at*
  generalize es.map EX=EL at*
  refine rb (R:=QS x0) ls ?_
  refine Jd (R:=QS x0) (fun _=> ?_) (fun h=>by cases h)
  refine rb (R:=QS x0) ix ?_
  refine rb (R:=QS x0) rfl ?_
  refine rb (R:=QS x0) rfl ?_
  refine Jd (R:=QS x0) (fun _=> ?_) (fun _=> ?_)
  ·refine rb (R:=QS x0) rfl ?_
   refine ATb (R:=QS x0) sd ?_
   refine O5 (R:=QS x0) rfl ?_
   refine rb (R:=QS x0) ad ?_
   refine O5 (R:=QS x0) rfl ?_
   exact nx1
  ·refine rb (R:=QS x0) ad ?_
   refine O5 (R:=QS x0) (by rcases hf with rfl|rfl<;>rfl) ?_
   exact nx2
theorem AQe {g:Grf} (hc:F8 g=0) (v:Int):(∀e∈(GH g).es.filter (fun e=>decide (e.fr=v)),0≤e.to∧e.to<64)∧((GH g).es.filter (fun e=>decide (e.fr=v))).length≤600:=by
 have hp:=(AQX hc).1
 have hn:(GH g).es=N9 g.es:=by rw[GH,if_pos hc]
 constructor
 ·intro e he
  rw[List.mem_filter,hn]at he
  have:=XI hc e (hp.mem_iff.1 he.1)
  simp only[InB]at this;omega
 ·have h1:=List.length_filter_le (fun e:E0=>decide (e.fr=v)) (GH g).es
  have h2:=(XH hc).2.1
  rw[hn,Y7]at h1
  rw[hn];omega
theorem AQf {R:Rv→Prop} {P:Bool→Prop} {f:V→Rv} {g:(V→Rv)→Rv} (hf:∀b,P b→R (f (.bool b))) (hg:∀k:V→Rv,(∀b,P b→R (k (.bool b)))→R (g k)):R (jn f g):=hg f hf
set_option maxHeartbeats 1000000 in
theorem FK (hj:Dz g j=true) (at_:Int) {x:Vtx} (hx:GZ x):QS x (Cl 39 [vG .sh g,vJ j,.int .i64 at_,A7 x] []):=by
 have hc:F8 g=0:=by simp only[Dz,decide_eq_true_eq]at hj;exact hj.1
 have hl:g.es.length<1000000:=by have:=(XH hc).2.1;omega
 have ck:=KH hl j
 rw[if_pos hj]at ck
 have ot:=AQY hl x.id
 obtain⟨o1,o2⟩:=AQe hc x.id
 generalize (GH g).es.filter (fun e=>decide (e.fr=x.id))=es at*
 have lL:(es.map EX).length=es.length:=List.length_map _
 have rck:∀{H:List V} {K:V×List V→Rv},QS x (K (.int .i64 0,[]))→QS x ((Cl 20 (AB H [vG .sh g,vJ j]) []).bind K):=fun q=>rb (R:=QS x) (show Cl 20 _ _=_ from ck) q
 have rgr:∀{H:List V} {n:Int} {K:V×List V→Rv},QS x (K (.bool (Bz n),[]))→QS x ((Cl 66 (AB H [.int .i64 n]) []).bind K):=fun q=>rb (R:=QS x) (show Cl 66 _ _=_ from Ib _) q
 have rot:∀{H:List V} {K:V×List V→Rv},QS x (K (.lst 52 .sh (es.map EX),[]))→QS x ((Cl 67 (AB H [vG .sh g,.int .i64 x.id]) []).bind K):=fun q=>rb (R:=QS x) (show Cl 67 _ _=_ from ot) q
 have rst:∀{H:List V} {x':Vtx} {K:V×List V→Rv},GZ x'→(∀(v:Int) (a s:Bool) (w:Int),I64 v→QS x (K (.tup [.int .i64 v,.bool a,.bool s,.int .i64 w],[])))→QS x ((Cl 68 (AB H [vJ j,.int .i64 at_,A7 x',.int .i64 ((es.map EX).length:Int)]) []).bind K):=fun{H x' K} hx' q=>by
  obtain⟨v,a,s,w,hv,hw,e⟩:=AIL (j:=j) (at_:=at_) hx'.2.1 hx'.2.2 (n:=((es.map EX).length:Int)) (by omega)
  exact rb (R:=QS x) (show Cl 68 _ _=_ from e) (q v a s w hv)
 have hx0:GZ ⟨x.id,x.val,x.act,x.has,0⟩:=⟨hx.1,hx.2.1,by simp[I64]⟩
 have lp:∀(x':Vtx),x'.id=x.id→GZ x'→∀(w v:Int) (a s:Bool),I64 v→QS x (Na (.ref 2 [] 70) (.ref 3 [] 70) (.int .i64 v) (.bool a) (.bool s) (.ref 5 [] 36) (.ref 6 [] 4) cSp (.lst 52 .sh (es.map EX)) (.int .i64 ((es.map EX).length:Int)) (.int .i64 0) (hSp g j x' w .nil [] (Bz v))):=fun x' h1 h2 w v a s hv=>by
  rw[lL]
  exact step_loop h1 w v hv a s h2.1 o2 o1 es.length 0 .nil [] (Bz v) (by omega) (Nat.le_refl 0) (.inr rfl) (fun _=>rfl) (by simp) (fun h=>h)
 clear ot o1 o2 hj hc ck
 have ret:∀H:List V,x.has=false→(Bz x.val=false∧Bz x.inn=false)→QS x (if(List.all [.int .i64 0,.lst 103 .nil [],A7 x] V.okE)=true then AQ 0 H (V.tup [A7 x,.lst 103 .nil [],.int .i64 0])else none):=fun H hh hg=>
  ⟨x,[],0,rfl,hx,fun _=>⟨rfl,hh⟩,by simp,by simp,.inl rfl,fun _ i1 i2 i3=>by
   have:=i3 hh
   have g0:Bz 0=false:=by decide
   simp only[Em,hg.1,hg.2,hh,this,g0]
   simp
   omega⟩
 rw[AOm]
 iterate 3 refine O5 (R:=QS x) rfl ?_
 refine AQf (R:=QS x) (P:=fun _=>True) (fun b _=> ?_) (fun k hk=> ?_)
 rotate_left
 ·iterate 2 refine rb (R:=QS x) rfl ?_
  refine rck ?_
  refine rb (R:=QS x) rfl ?_
  refine Jd (R:=QS x) (fun _=>hk _ trivial) (fun _=> ?_)
  iterate 3 refine rb (R:=QS x) rfl ?_
  refine Jd (R:=QS x) (fun _=>hk _ trivial) (fun _=> ?_)
  iterate 5 refine rb (R:=QS x) rfl ?_
  refine Jd (R:=QS x) (fun _=>hk _ trivial) (fun _=> ?_)
  refine rb (R:=QS x) rfl ?_
  refine Jd (R:=QS x) (fun _=>hk _ trivial) (fun _=> ?_)
  iterate 3 refine rb (R:=QS x) rfl ?_
  exact hk _ trivial
 refine Jd (R:=QS x) (fun _=> ?_) (fun _=> ?_)
 ·iterate 3 refine rb (R:=QS x) rfl ?_
  exact QS.err (by omega) 0 _ rfl (.inl rfl)
 refine AQf (R:=QS x) (P:=fun b=>b=false→(Bz x.val=false∧Bz x.inn=false)) (fun b hgg=> ?_) (fun k hk=> ?_)
 rotate_left
 ·iterate 2 refine rb (R:=QS x) rfl ?_
  refine rgr ?_
  refine Jd (R:=QS x) (fun _=>hk _ (fun h=>by cases h)) (fun g1=> ?_)
  iterate 2 refine rb (R:=QS x) rfl ?_
  refine rgr ?_
  exact hk _ (fun h=>⟨g1,h⟩)
 refine Jd (R:=QS x) (fun _=> ?_) (fun hbf=> ?_)
 ·iterate 3 refine rb (R:=QS x) rfl ?_
  exact QS.err (by omega) 0 _ rfl (.inl rfl)
 refine AQf (R:=QS x) (P:=fun b=>b=true→x.has=false) (fun b hb=> ?_) (fun k hk=> ?_)
 rotate_left
 ·iterate 3 refine rb (R:=QS x) rfl ?_
  refine Jd (R:=QS x) (fun _=> ?_) (fun _=>hk _ (fun h=>by cases h))
  iterate 3 refine rb (R:=QS x) rfl ?_
  exact hk (!x.has) (fun h=>by simpa using h)
 refine Jd (R:=QS x) (fun h=> ?_) (fun _=> ?_)
 ·iterate 3 refine rb (R:=QS x) rfl ?_
  exact ret _ (hb h) (hgg hbf)
 iterate 3 refine rb (R:=QS x) rfl ?_
 refine rjn (R:=QS x) ?_
 refine Jd (R:=QS x) (fun _=> ?_) (fun _=> ?_)
 ·iterate 2 refine rb (R:=QS x) rfl ?_
  iterate 3 refine rb (R:=QS x) rfl ?_
  refine rot ?_
  iterate 3 refine rb (R:=QS x) rfl ?_
  refine rst (x':=⟨x.id,x.val,x.act,x.has,0⟩) hx0 (fun v a s w hv=> ?_)
  iterate 5 refine rb (R:=QS x) rfl ?_
  refine rgr ?_
  iterate 3 refine rb (R:=QS x) rfl ?_
  exact lp ⟨x.id,x.val,x.act,x.has,0⟩ rfl hx0 _ _ _ _ hv
 ·iterate 3 refine rb (R:=QS x) rfl ?_
  refine rot ?_
  iterate 3 refine rb (R:=QS x) rfl ?_
  refine rst (x':=x) hx (fun v a s w hv=> ?_)
  iterate 5 refine rb (R:=QS x) rfl ?_
  refine rgr ?_
  iterate 3 refine rb (R:=QS x) rfl ?_
  exact lp x rfl hx _ _ _ _ hv
end
end
section
open Go AM
theorem AMD {l:List Msg} (hl:l.length≤1000000) {N:Int} (hin:∀m∈l,0≤m.to):∀(n i:Nat),i+n=l.length→
 PI (BZ .sh l) (.clo 72 []) (.int .i64 (l.length:Int)) (.int .i64 (i:Int)) 1 [.int .i64 N]=some (.int .i64 (-1),[.int .i64 N]):=by
 intro n
 induction n with
 |zero=>
  intro i hi
  have ls:AL .lss (.int .i64 (i:Int)) (.int .i64 (l.length:Int))=some (.bool false):=by rw[b_lss,decide_eq_false (by omega)]
  rw[Qa]
  refine Ah ls ?_
  rfl
 |succ n ih=>
  intro i hi
  have h:i<l.length:=by omega
  have ls:AL .lss (.int .i64 (i:Int)) (.int .i64 (l.length:Int))=some (.bool true):=by rw[b_lss,decide_eq_true (by omega)]
  have ix:D9 103 (V.weak (BZ .sh l)) (.int .i64 (i:Int))=some (.rop 103 (Ac l[i])):=by
   show D9 _ (.lst _ .sh _) _=_
   rw[DL,List.getElem?_map,List.getElem?_eq_getElem h];rfl
  have l1:AX [V.int .i64 N] 103 (.rop 103 (Ac l[i]))=some (Ac l[i]):=EK
  have ad:AL .add (.int .i64 (i:Int)) (.int .i64 1)=some (.int .i64 ((i+1:Nat):Int)):=by rw[Bq,wrap_i64 (by omega) (by omega)];rfl
  have ht:=hin _ (List.getElem_mem h)
  have c1:Cl 72 [Ac l[i]] []=some (.bool false,[]):=by
   generalize l[i]=m at*
   have le:AL .lss (.int .i64 m.to) (.int .i64 0)=some (.bool false):=by rw[b_lss,decide_eq_false (by omega)]
   rw[AO7]
   refine O5 (R:=fun K=>K=_) rfl ?_
   refine rb (R:=fun K=>K=_) rfl ?_
   refine rb (R:=fun K=>K=_) rfl ?_
   refine rb (R:=fun K=>K=_) le ?_
   rfl
  have cv:∀K:V→List V→Rv,BH P CX W (.clo 72 []) [Ac l[i]] [.int .i64 N] K=K (.bool false) [.int .i64 N]:=fun K=>by
   refine(J7 K (by kernel_rfl) (by kernel_rfl)).trans ?_
   exact AA (show Cl 72 (AB [.int .i64 N] ([Ac l[i]]++[])) []=_ from c1) _
  rw[←ih (i+1) (by omega),Qa]
  refine Ah ls ?_
  refine Be ?_
  refine Ah ix ?_
  refine Ah l1 ?_
  refine(cv _).trans ?_
  refine(if_pos rfl).trans ?_
  refine BP ?_
  exact AA ad _
theorem AIP {l:List Msg} (hl:l.length≤1000000) {N:Int} (hin:∀m∈l,0≤m.to):Cl 71 [BZ .sh l,.clo 72 []] [.int .i64 N]=some (.bool false,[.int .i64 N]):=by
 have lp:=AMD hl (N:=N) hin l.length 0 (by omega)
 have lL:EJ (V.weak (BZ .sh l))=some (.int .i64 (l.length:Int)):=by show some _=_;rw[List.length_map]
 have ix:Cl 107 (AP [BZ .sh l,.clo 72 []]) [.int .i64 N]=some (.int .i64 (-1),[.int .i64 N]):=by
  show Cl _ [BZ .sh l,.clo 72 []] _=_
  rw[←lp,AKe]
  exact AA lL _
 rw[AO6]
 refine Ah ix ?_
 rfl
def O6 (N w:Nat) (l:List Msg):List Msg:=DI (l.filter fun m=>decide (ownN m.to.toNat N=w))
def MS (N:Nat) (l:List Msg):List (List Msg):=(List.range N).map fun w=>O6 N w l
section
variable {N:Nat} {l:List Msg}
theorem AIQ (w:Nat):(O6 N w l).length≤l.length:=by
 rw[O6,DI,List.length_mergeSort]
 exact List.length_filter_le _ _
theorem AIR (h1:1≤N) (hN:N≤64) (hl:l.length≤1000000) (hin:∀m∈l,MIn m):∀(m i:Nat),i+m=N→
 VZ (BZ .sh l) (.ref 0 [] 3) (.win 1 [] 0 N 36) (.int .i64 (N:Int)) (.int .i64 (i:Int)) [.int .i64 (N:Int),.row 36 (((List.range i).map fun w=>BZ .sh (O6 N w l))++List.replicate m (.lst 103 .nil []))]=
  some (.tup [.lst 36 .sh ((MS N l).map (BZ .sh)),.int .i64 0],[]):=by
 intro m
 induction m with
 |zero=>
  intro i hi
  obtain rfl:i=N:=by omega
  have ls:AL .lss (.int .i64 (i:Int)) (.int .i64 (i:Int))=some (.bool false):=by rw[b_lss,decide_eq_false (by omega)]
  have hs:(List.range i).map (fun w=>BZ .sh (O6 i w l))=(MS i l).map (BZ .sh):=by rw[MS,List.map_map];rfl
  have hlen:((MS i l).map (BZ .sh)).length=i:=by simp[MS]
  rw[List.replicate_zero,List.append_nil,hs,UC]
  have pl:∀L:List (List Msg),Iu (L.map (BZ .sh))=true:=fun L=>DC (fun a=>by show Iu _=true;exact AHb a) L
  have p1:=pl (MS i l)
  generalize (MS i l).map (BZ .sh)=L at*
  have ct:Ai [.int .i64 (i:Int),.row 36 L] (.win 1 [] 0 i 36)=some L:=by
   simp only[Ai,rd,List.getElem?_cons_zero,List.getElem?_cons_succ,Option.bind_some,V.at,V.items,Option.map_some,List.drop_zero]
   rw[List.take_of_length_le (by omega)]
  have fn:AQ 0 [.int .i64 (i:Int),.row 36 L] (.tup [.win 1 [] 0 i 36,.int .i64 0])=some (.tup [.lst 36 .sh L,.int .i64 0],[]):=by
   simp only[AQ,V.unmut,DU,ct,Nl p1,MI p1,if_true]
   rfl
  refine Ah ls ?_
  refine BP ?_
  refine(if_pos rfl).trans ?_
  exact fn
 |succ m ih=>
  intro i hi
  have ls:AL .lss (.int .i64 (i:Int)) (.int .i64 (N:Int))=some (.bool true):=by rw[b_lss,decide_eq_true (by omega)]
  have ad:AL .add (.int .i64 (i:Int)) (.int .i64 1)=some (.int .i64 ((i+1:Nat):Int)):=by rw[Bq,wrap_i64 (by omega) (by omega)];rfl
  generalize hR:((List.range i).map fun w=>BZ .sh (O6 N w l))++List.replicate (m+1) (V.lst 103 .nil [])=R
  generalize hR2:((List.range (i+1)).map fun w=>BZ .sh (O6 N w l))++List.replicate m (V.lst 103 .nil [])=R2
  have hset:R.set i (BZ .sh (O6 N i l))=R2:=by
   rw[←hR,←hR2,List.set_append_right _ _ (by simp)]
   simp[List.range_succ,List.replicate_succ]
  have hRl:i<R.length:=by rw[←hR];simp
  have hc:∀q∈l,∀K:V→List V→Rv,BH P CX W (.clo 75 [.ref 0 [] 3,.ref 2 [] 3]) [Ac q] ([.int .i64 (N:Int),.row 36 R,.int .i64 (i:Int)]++[Ac q]) K=
   K (.bool (decide (ownN q.to.toNat N=i))) ([.int .i64 (N:Int),.row 36 R,.int .i64 (i:Int)]++[Ac q]):=fun q hq K=>by
   have hq':=hin q hq
   have ow:=ZF (v:=q.to.toNat) (n:=N) (by have:=hq'.2;omega) h1 hN
   rw[show((q.to.toNat:Nat):Int)=q.to by have:=hq'.2;omega]at ow
   have eq:AL .eql (.int .i64 (ownN q.to.toNat N:Int)) (.int .i64 (i:Int))=some (.bool (decide (ownN q.to.toNat N=i))):=by
    rw[b_eql];congr 2;exact decide_eq_decide.2 (by omega)
   refine DZ (h':=[.int .i64 (N:Int),.row 36 R,.int .i64 (i:Int)]++[Ac q]) (v:= .bool (decide (ownN q.to.toNat N=i))) ?_ rfl
   show Cl 75 [Ac q,.ref 0 [] 3,.ref 2 [] 3] _=_
   rw[APA]
   generalize ownN q.to.toNat N=o at*
   refine O5 (R:=fun K=>K=_) rfl ?_
   refine rb (R:=fun K=>K=_) rfl ?_
   refine rb (R:=fun K=>K=_) rfl ?_
   refine rb (R:=fun K=>K=_) rfl ?_
   refine rb (R:=fun K=>K=_) (show _=some (V.int .i64 (o:Int),[])from ow) ?_
   refine rb (R:=fun K=>K=_) rfl ?_
   refine rb (R:=fun K=>K=_) eq ?_
   rfl
  have pk:=Yr (c:= .clo 75 [.ref 0 [] 3,.ref 2 [] 3]) (H:=[.int .i64 (N:Int),.row 36 R,.int .i64 (i:Int)]) (p:=fun q=>decide (ownN q.to.toNat N=i)) (l:=l) (fl:= .sh) rfl hl (by simp) hc
  have so:=P8 .sh (l.filter fun q=>decide (ownN q.to.toNat N=i)) (by have:=List.length_filter_le (fun q:Msg=>decide (ownN q.to.toNat N=i)) l;omega)
  rw[show DI (l.filter fun q=>decide (ownN q.to.toNat N=i))=O6 N i l from rfl]at so
  have ck:∀K:V→List V→Rv,Eo P CX W true none [.ref 2 [] 3] (.clo 74 []) [BZ .sh l,.clo 75 [.ref 0 [] 3,.ref 2 [] 3]] [.int .i64 (N:Int),.row 36 R,.int .i64 (i:Int)] K=
   K (BZ .sh (l.filter fun q=>decide (ownN q.to.toNat N=i))) [.int .i64 (N:Int),.row 36 R,.int .i64 (i:Int)]:=fun K=>by
   unfold Eo
   refine Ah (show ADr [.int .i64 (N:Int),.row 36 R,.int .i64 (i:Int)] [.clo 74 [],BZ .sh l,.clo 75 [.ref 0 [] 3,.ref 2 [] 3]]=some 3 from rfl) ?_
   refine(FC _ (by kernel_rfl) (by kernel_rfl)).trans ?_
   refine Ah (show Cl 74 _ _=some (BZ .sh (l.filter fun q=>decide (ownN q.to.toNat N=i)),[.int .i64 (N:Int),.row 36 R,.int .i64 (i:Int)])from pk) ?_
   refine if_pos ?_
   simp only[AFP,List.all_cons,List.all_nil,Bool.and_true]
   simp[V.same]
  have xx:D9 36 (V.weak (.win 1 [] 0 N 36)) (.int .i64 (i:Int))=some (.ref 1 [i] 36):=by
   have hin:inside (i:Int) N=true:=by simp only[inside,Bool.and_eq_true,decide_eq_true_eq];omega
   simp only[V.weak,D9,hin,Int.toNat_natCast,decide_true,Bool.and_self,if_true,List.nil_append,Nat.zero_add]
  have st:DJ (AM.tyL 103) 36 [.int .i64 (N:Int),.row 36 R,.int .i64 (i:Int)] (.ref 1 [i] 36) (BZ .sh (O6 N i l))=some [.int .i64 (N:Int),.row 36 R2,.int .i64 (i:Int)]:=by
   rw[ANR rfl rfl]
   simp only[List.getElem?_cons_zero,List.getElem?_cons_succ,Option.bind_some]
   rw[APk hRl,hset];rfl
  have nx:=ih (i+1) (by omega)
  rw[hR2]at nx
  rw[←nx,UC]
  clear ih nx hR hR2 hset hin hc pk
  generalize O6 N i l=hi_ at*
  generalize l.filter (fun q=>decide (ownN q.to.toNat N=i))=fl_ at*
  generalize (i+1:Nat)=i2 at*
  refine Ah ls ?_
  refine Be ?_
  refine Ah (show DJ (AM.tyI .i64) 3 ([.int .i64 (N:Int),.row 36 R]++[.int .i64 0]) (.ref 2 [] 3) (.int .i64 (i:Int))=some [.int .i64 (N:Int),.row 36 R,.int .i64 (i:Int)]from rfl) ?_
  refine(if_pos rfl).trans ?_
  refine Ah (show AX [.int .i64 (N:Int),.row 36 R,.int .i64 (i:Int)] 3 (.ref 2 [] 3)=some (.int .i64 (i:Int))from rfl) ?_
  refine Ah (show _=some (V.clo 75 [.ref 0 [] 3,.ref 2 [] 3])from if_pos rfl) ?_
  refine(ck _).trans ?_
  refine Ah (show Cl 73 (AB _ [BZ .sh fl_]) []=_ from so) ?_
  refine Ah xx ?_
  refine Ah st ?_
  refine Ah ad ?_
  exact if_pos rfl
theorem MV (h1:1≤N) (hN:N≤64) (hl:l.length≤1000000) (hin:∀m∈l,MIn m):Cl 40 [.int .i64 (N:Int),BZ .sh l] []=some (.tup [.lst 36 .sh ((MS N l).map (BZ .sh)),.int .i64 0],[]):=by
 have lp:=AIR h1 hN hl hin N 0 (by omega)
 have ct:=AIP hl (N:=(N:Int)) (fun m hm=>(hin m hm).2.1)
 have a1:AL .lss (.int .i64 (N:Int)) (.int .i64 1)=some (.bool false):=by rw[b_lss,decide_eq_false (by omega)]
 have a2:AL .gtr (.int .i64 (N:Int)) (.int .i64 64)=some (.bool false):=by rw[b_gtr,decide_eq_false (by omega)]
 have mk:mkL 36 (V.lst 103 .nil []) (.int .i64 (N:Int)) (.int .i64 (N:Int))=some (.lst 36 .own (List.replicate N (V.lst 103 .nil []))):=by
  simp only[mkL]
  rw[if_pos (by omega),Int.toNat_natCast]
 have tb:Dp [V.int .i64 (N:Int)] (.lst 36 .own (List.replicate N (V.lst 103 .nil [])))=some (.win 1 [] 0 N 36,[.int .i64 (N:Int),.row 36 (List.replicate N (V.lst 103 .nil []))]):=by
  simp[Dp]
 rw[List.range_zero,List.map_nil,List.nil_append]at lp
 rw[←lp,AOn]
 clear lp
 generalize List.replicate N (V.lst 103 .nil [])=R at*
 refine(if_pos rfl).trans ?_
 refine(AO _ _).trans ?_
 refine Ah (show AX [V.int .i64 (N:Int)] 3 (.ref 0 [] 3)=some (.int .i64 (N:Int))from rfl) ?_
 refine Ah a1 ?_
 refine BP ?_
 refine Ah (show AX [V.int .i64 (N:Int)] 3 (.ref 0 [] 3)=some (.int .i64 (N:Int))from rfl) ?_
 refine Ah a2 ?_
 refine BP ?_
 refine Ah (show Cl 71 (AP [(BZ .sh l).weak,.clo 72 []]) [.int .i64 (N:Int)]=_ from ct) ?_
 refine BP ?_
 refine Ah (show AX [V.int .i64 (N:Int)] 3 (.ref 0 [] 3)=some (.int .i64 (N:Int))from rfl) ?_
 refine Ah mk ?_
 refine Ah tb ?_
 exact AA (show EJ (V.weak (.win 1 [] 0 N 36))=some (.int .i64 (N:Int))from rfl) _
end
end
section
open Go AM
def Xf (x:Int):Bool:=decide (0≤x)&&decide (x<64)
def mR (m:Msg):Bool:=Xf m.fr&&Xf m.to&&decide (m.val≤1125899906842624)&&decide (-1125899906842624≤m.val)
def AIS (a b:Msg):Bool:=decide (a.fr=b.fr)&&decide (a.to=b.to)
def Iy (l:List Msg):Nat→Nat→Bool
 |0,_=>true
 |n+1,i=> !(decide (0<i)&&AIS (l.getD (i-1) default) (l.getD i default))&&mR (l.getD i default)&&Iy l n (i+1)
def AEK (l:List Msg):Bool:=decide (l.length≤512)&&Iy (DI l) l.length 0
theorem ANl (x:Int):Cl 111 [.int .i64 x] []=some (.bool (Xf x),[]):=by
 rw[AKg,ABw,ABx]
 by_cases h:0≤x
 ·refine(APz h _).trans ?_
  rw[BU]
  refine(AA (b_lss _ _ _) _).trans ?_
  rw[Xf,decide_eq_true h];rfl
 ·refine(AP0 h _).trans ?_
  rw[BV,Xf,decide_eq_false h];rfl
abbrev cc:V:= .clo 111 []
theorem AQg {h:List V} {id:Nat} {m:Msg} (hh:h[id]?=some (Ac m)) (dup:Bool) (K:V→List V→Option (V×List V)):
 AAP cc (.ref id [] 103) (.bool dup) h K=K (.bool (!mR m||dup)) h:=by
 rw[AAP]
 refine(AC9 hh _).trans ?_
 refine(J7 (f:=111) (cs:=[]) _ (by kernel_rfl) (by kernel_rfl)).trans ?_
 refine(AA (ANl m.fr) _).trans ?_
 refine(if_pos rfl).trans<|(ATG _ _).trans ?_
 rw[AAh]
 by_cases h1:Xf m.fr=true
 ·rw[if_neg (by simp[h1])]
  refine(ADA hh _).trans ?_
  refine(J7 (f:=111) (cs:=[]) _ (by kernel_rfl) (by kernel_rfl)).trans ?_
  refine(AA (ANl m.to) _).trans ?_
  refine(if_pos rfl).trans<|(ATG _ _).trans ?_
  rw[AAh]
  by_cases h2:Xf m.to=true
  ·rw[if_neg (by simp[h2])]
   refine(AAg hh _).trans ?_
   by_cases h3:m.val≤1125899906842624
   ·refine(AQI (by omega) _).trans ?_
    rw[BV]
    refine(AAg hh _).trans ?_
    by_cases h4: -1125899906842624≤m.val
    ·refine(IC (by omega) _).trans ?_
     rw[BV];simp[mR,h1,h2,h3,h4]
    ·refine(Hl (by omega) _).trans ?_
     rw[BU];simp[mR,h4]
   ·refine(AQH (by omega) _).trans ?_
    rw[BU];simp[mR,h3]
  ·rw[if_pos (by simp[h2])];simp[mR,h2]
 ·rw[if_pos (by simp[h1])];simp[mR,h1]
theorem ATc {B:Type} {h:List V} {m:Msg} {x:Int} (j:Nat) (u:TypeId) (hj:[3,3,2][j]?=some u) (hu:P.cellsOf u≠0) (hx:[V.int .i64 m.fr,V.int .i64 m.to,V.int .i64 m.val][j]?=some (.int .i64 x)) (K:V→Option B):
 (Af P 103 j (.rop 103 (Ac m))).bind (fun t=>(AX h u t).bind K)=K (.int .i64 x):=by
 refine(AA (show Af P 103 j (.rop 103 (Ac m))=some (.rop u (.int .i64 x))by simp[Af,ACr,hj,hu,Ac,hx]) _).trans ?_
 exact ldR K
theorem ATd {B:Type} {h:List V} {m:Msg} (K:V→Option B):(Af P 103 0 (.rop 103 (Ac m))).bind (fun t=>(AX h 3 t).bind K)=K (.int .i64 m.fr):=ATc 0 _ rfl (by rw[ACq];decide) rfl K
theorem ATe {B:Type} {h:List V} {m:Msg} (K:V→Option B):(Af P 103 1 (.rop 103 (Ac m))).bind (fun t=>(AX h 3 t).bind K)=K (.int .i64 m.to):=ATc 1 _ rfl (by rw[ACq];decide) rfl K
theorem XJ {l:List Msg} {i:Nat} (hi:i<l.length):(l.map Ac)[i]?=some (Ac (l.getD i default)):=by
 rw[AH6 hi,List.getD_eq_getElem?_getD,List.getElem?_eq_getElem hi];rfl
theorem AQh {h:List V} {id i:Nat} {g:Fl} {l:List Msg} {m:Msg} (hh:h[id]?=some (Ac m)) (hi:i<l.length) (hn:l.length≤1000000) (K:V→Option (V×List V)):
 AAO (BZ g l) (iv i) (.ref id [] 103) h K=K (.bool (decide (0<i)&&AIS (l.getD (i-1) default) m)):=by
 rw[AAO]
 by_cases h0:0<i
 ·refine(AQH (by omega) _).trans ?_
  rw[BU]
  refine(JX (b:=1) (by omega) (by omega) _).trans<|(AD4 AAT (XJ (i:=i-1) (by omega)) _).trans<|(ATd _).trans<|(AC9 hh _).trans ?_
  by_cases h1:(l.getD (i-1) default).fr=m.fr
  ·refine(AVg h1 _).trans ?_
   rw[BU]
   refine(JX (b:=1) (by omega) (by omega) _).trans<|(AD4 AAT (XJ (i:=i-1) (by omega)) _).trans<|(ATe _).trans<|(ADA hh _).trans ?_
   refine(AA (b_eql _ _ _) _).trans ?_
   rw[AIS,decide_eq_true h0,decide_eq_true h1];rfl
  ·refine(AVh h1 _).trans ?_
   rw[BV,AIS,decide_eq_false h1];simp
 ·refine(AQI (by omega) _).trans ?_
  rw[BV,decide_eq_false h0];rfl
theorem AQi (l:List Msg) (hn:l.length≤1000000) (g g':Fl):∀(n i:Nat),i+n=l.length→
 V4 cc (BZ g l) (BZ g' l) (iv l.length) (iv i) []=some (iv (if Iy l n i=true then 0 else 110),[]):=by
 intro n
 induction n with
 |zero=>
  intro i hi
  rw[UI,AAN]
  refine(IC (by omega) _).trans ?_
  rw[BV,ABg,FH];rfl
 |succ n ih=>
  intro i hi
  have hlt:i<l.length:=by omega
  rw[UI,AAN]
  refine(Hl (by omega) _).trans ?_
  rw[BU,AG1]
  refine(AD3 AAT (XJ hlt) _).trans<|(ldR _).trans ?_
  refine(AA (EM (P:=P) (h:=[]++[zero P 103]) (id:=0) rfl (AC8 _) rfl) _).trans ?_
  generalize hm:l.getD i default=m
  have hh:(([]++[zero P 103]:List V).set 0 (Ac m))[0]?=some (Ac m):=rfl
  refine(AQh (id:=0) hh hlt hn _).trans ?_
  refine(AQg (id:=0) hh _ _).trans ?_
  rw[AAh,Iy,hm]
  generalize (decide (0<i)&&AIS (l.getD (i-1) default) m)=db at*
  by_cases hb:(!mR m||db)=true
  ·rw[if_pos hb,ABe,FH]
   have e:(!db&&mR m&&Iy l n (i+1))=false:=by
    cases h1:mR m<;>cases h2:db<;>simp[h1,h2]at hb⊢
   rw[e];rfl
  ·rw[if_neg hb,ABf]
   refine(Gt (b:=1) (by omega) _).trans ?_
   have u:Aa (List.length ([]:List V)) [cc,BZ g l,BZ g' l,iv l.length,iv (i+1)]=true:=by
    simp only[Aa,Yq];rfl
   refine(if_pos u).trans ?_
   have e:(!db&&mR m&&Iy l n (i+1))=Iy l n (i+1):=by
    cases h1:mR m<;>cases h2:db<;>simp[h1,h2]at hb⊢
   rw[e]
   exact ih (i+1) (by omega)
theorem AIT {f:Fl} {l:List Msg} (hn:l.length≤1000000):Cl 79 [BZ f l] []=some (iv (if AEK l=true then 0 else 110),[]):=by
 rw[APE,AGu,AGv,AGx]
 refine(AAZ Wj _).trans ?_
 rw[List.length_map]
 by_cases h:l.length≤512
 ·refine(AQI (by omega) _).trans ?_
  rw[BV,AGz]
  obtain⟨g,hg⟩:=KF [] f l
  rw[hg]
  refine(AA (P8 g l hn) _).trans ?_
  rw[AG0]
  refine(AAZ Wj _).trans ?_
  rw[List.length_map]
  refine(AQi (DI l) (by rw[IZ];exact hn) .sh .sh (DI l).length 0 (by omega)).trans ?_
  rw[AEK,decide_eq_true h,IZ,Bool.true_and]
 ·refine(AQH (by omega) _).trans ?_
  rw[BU,AGy,FH,AEK,decide_eq_false h];rfl
def ZH (s:List UInt8):List UInt8:=Ap s.length++s
def ATf (l:List Msg):List UInt8:=Ap l.length++((Ia l).map ZH).flatten
theorem AIU (n:Nat) (h:List V) (s:List UInt8) (x:Int):(if(List.all [V.int .i64 x,V.str s] V.okE)=true then AQ n h (V.tup [.str s,.int .i64 x])else none)=some (.tup [.str s,.int .i64 x],h.take n):=rfl
theorem AQj (rs:List (List UInt8)) (hr:∀r∈rs,r.length≤100) (hn:rs.length≤1000000):∀(n i:Nat) (done:List UInt8),i+n=rs.length→done.length≤200*i+100→
 Vd (Di 0) (sL .sh rs) (iv rs.length) (iv i) [BN .own done]=some (.tup [.str (done++((rs.drop i).map ZH).flatten),.int .i64 0],[]):=by
 intro n
 induction n with
 |zero=>
  intro i done hi hd
  rw[UE,AAG]
  refine(IC (by omega) _).trans ?_
  rw[BV,ABa]
  refine(AA (Gx (id:=0) (h:=[BN .own done]) rfl) _).trans ?_
  refine(AIU _ _ _ _).trans ?_
  rw[List.drop_eq_nil_of_le (by omega)];simp
 |succ n ih=>
  intro i done hi hd
  have hlt:i<rs.length:=by omega
  have hg:(rs.map V.str)[i]?=some (V.str rs[i]):=by simp[hlt]
  have hl:=hr _ (List.getElem_mem hlt)
  have nb:=Aj 10 rs[i].length
  rw[UE,AAG]
  refine(Hl (by omega) _).trans ?_
  rw[BU,AF6]
  refine(AD3 APU hg _).trans<|(ldR _).trans ?_
  rw[AF7]
  have e1:AP [Di 0,V.str rs[i]]=[Di 0,V.str rs[i]]:=rfl
  rw[e1]
  refine(AA (Ri (id:=0) (h:=[BN .own done]) rfl (Or.inl rfl) (by omega)) _).trans ?_
  rw[ABZ]
  refine(Gt (b:=1) (by omega) _).trans ?_
  have:=ih (i+1) (done++Ap rs[i].length++rs[i]) (by omega) (by simp only[List.length_append,Ap];omega)
  rw[List.drop_eq_getElem_cons hlt,List.map_cons,List.flatten_cons,ZH]
  simp only[List.append_assoc]at this⊢
  exact this
theorem AQk {f:Fl} {l:List Msg} (hl:∀m∈l,MOk m) (hn:l.length≤1000000):
 Cl 43 [BZ f l] []=some (if AEK l=true then .tup [.str (ATf l),.int .i64 0]else .tup [.str [],.int .i64 110],[]):=by
 rw[AOp,AFz,AF0]
 obtain⟨g0,hg0⟩:=ALq f l
 obtain⟨g,hg⟩:=KF [] g0 l
 rw[hg0,hg]
 refine(AA (AIT hn) _).trans ?_
 rw[AF1]
 by_cases hc:AEK l=true
 ·rw[if_pos hc,if_pos hc]
  refine(AS7 (by simp) _).trans ?_
  rw[BV,AF3]
  refine(AA (IX _) _).trans ?_
  rw[AF4,hg0]
  refine(AD2 Wj _).trans ?_
  rw[List.length_map]
  refine(AC4 (by omega) (by omega) _).trans ?_
  have e1:AP [Di ([]:List V).length,V.int .u64 ((l.length:Int).toNat:Int)]=[Di 0,V.int .u64 (l.length:Int)]:=rfl
  rw[e1]
  have nb:=Aj 10 l.length
  refine(AA (EH (id:=0) (h:=[]++[BN .nil []]) rfl (Or.inr rfl) (by omega) (by simp)) _).trans ?_
  rw[AF5]
  obtain⟨g2,hg2⟩:=KF (([]++[BN .nil []]).set 0 (BN .own ([]++Ap l.length))) f l
  rw[hg2]
  refine(AA (ADC hl hn) _).trans ?_
  refine(AD2 APT _).trans ?_
  have hlen:(Ia l).length=l.length:=by rw[Ia,List.length_map,IZ]
  have:=AQj (Ia l) (by
   intro r hr
   rw[Ia]at hr
   obtain⟨m,_,rfl⟩:=List.mem_map.1 hr
   have:=Yp m;omega) (by omega) (Ia l).length 0 (Ap l.length) (by omega) (by rw[Ap];omega)
  rw[List.drop_zero]at this
  rw[List.length_map]
  exact this
 ·rw[if_neg hc,if_neg hc]
  refine(AS6 (by simp) _).trans ?_
  rw[BU,AF2]
  exact AIU _ _ _ _
end
section
open Go AM
end
section
open Go AM
end
section
open Go AM
theorem AAt (l:List Msg):Short (Ia l):=by
 intro s hs
 obtain⟨m,_,rfl⟩:=List.mem_map.1 hs
 have:=Yp m;omega
theorem AIV (l:List Msg):(Ia l).length=l.length:=by rw[Ia,List.length_map,IZ]
def brootB (l:List Msg):List UInt8:=AIH (Ia l)
theorem AIW {g:Fl} {l:List Msg} (hl:∀m∈l,MOk m) (hn:l.length≤1000000):Cl 76 [.lst 103 g (l.map Ac)] []=some (Bh (brootB l),[]):=by
 have h:∀g,Cl 80 [.lst 103 g (l.map Ac)] []=some (.lst 9 .sh ((Ia l).map V.str),[]):=fun g=>ADC hl hn
 rw[APB,N7]
 simp(disch:=first|assumption|omega|(with_reducible rfl)|(simp only[go_sem];done)|(simp only[go_sem];omega)|fail) only[↓reduceIte,↓AO,Nat.reduceAdd,go_sem,h,ADJ (l:=Ia l) (by rw[AIV];omega) (AAt l)]
 rfl
end
section
open Go AM
def Ci (l:List Msg):List UInt8×Nat:=if AEK l=true then(ATf l,0)else([],110)
theorem QB {f:Fl} {l:List Msg} (hl:∀m∈l,MOk m) (hn:l.length≤1000000):Cl 43 [.lst 103 f (l.map Ac)] []=some (.tup [.str (Ci l).1,.int .i64 ((Ci l).2:Int)],[]):=by
 refine(AQk (f:=f) hl hn).trans ?_
 rw[Ci];split<;>rfl
@[go_sem] theorem AQl (l:List Msg):(brootB l).length=32:=N8 _ _
end
section
open Go AM
theorem ADN (a b:Msg):KX (Ac a) (Ac b)=some (decide (a=b)):=by
 simp only[Ac,KX,MB,if_true,Option.bind_some]
 by_cases h1:a.fr=b.fr<;>by_cases h2:a.to=b.to<;>by_cases h3:a.val=b.val<;>cases a<;>cases b<;>simp_all
@[go_sem] theorem eqM (a b:Msg):Tm (tyG 102) .eql (Ac a) (Ac b)=some (.bool (decide (a=b))):=by
  simp only[Tm,YX,Bool.and_self,if_true,ADN,Option.map_some]
@[go_sem] theorem neM (a b:Msg):Tm (tyG 102) .neq (Ac a) (Ac b)=some (.bool (!decide (a=b))):=by
  simp only[Tm,YX,Bool.and_self,if_true,ADN,Option.map_some]
end
section
open Go AM
theorem ZI:∀(f n k v:Nat) (rest:List UInt8),n<128^f→0<f→(0<k→0<n)→n*128^k<18446744073709551616→k≤9→
 FD k v (IW f n++rest)=(v+n*128^k,k+(IW f n).length,0):=by
 intro f
 induction f with
 |zero=>intro n k v rest _ h;omega
 |succ f ih=>
  intro n k v rest hn _ h0 hb h9
  have k9:k=9→n<2:=by
   rintro rfl
   rcases Nat.lt_or_ge n 2 with h|h
   ·exact h
   ·have:2*128^9≤n*128^9:=Nat.mul_le_mul_right _ h
    have e:(128:Nat)^9=9223372036854775808:=by decide
    omega
  rw[IW]
  by_cases h:n<128
  ·rw[if_pos h]
   have e:(UInt8.ofNat n).toNat=n:=by rw[UInt8.toNat_ofNat'];exact Nat.mod_eq_of_lt (by omega)
   simp only[List.cons_append,List.nil_append,FD,e]
   rw[if_neg (by
    rintro (⟨a,b⟩|⟨a,b⟩)
    ·have:=k9 a;omega
    ·have:=h0 a;omega),if_pos h,Nat.mod_eq_of_lt h]
   rfl
  ·rw[if_neg h]
   have e:(UInt8.ofNat (n%128+128)).toNat=n%128+128:=by rw[UInt8.toNat_ofNat'];exact Nat.mod_eq_of_lt (by omega)
   simp only[List.cons_append,FD,e]
   have hk:k<9:=by
    rcases Nat.lt_or_ge k 9 with h'|h'
    ·exact h'
    ·have:=k9 (by omega);omega
   have hf:0<f:=by
    rcases Nat.eq_zero_or_pos f with h'|h'
    ·subst h';simp at hn;omega
    ·exact h'
   rw[if_neg (by omega),if_neg (by omega)]
   have e1:(n%128+128)%128=n%128:=by omega
   have e2:n%128*128^k+n/128*128^(k+1)=n*128^k:=by
    rw[Nat.pow_succ,Nat.mul_comm (128^k) 128,←Nat.mul_assoc,←Nat.add_mul]
    congr 1;omega
   rw[ih (n/128) (k+1) _ rest (by rw[Nat.pow_succ]at hn;omega) hf (fun _=>by omega) (by omega) (by omega),e1]
   refine Prod.ext ?_ (Prod.ext ?_ rfl)
   ·simp only[];omega
   ·simp only[List.length_cons];omega
theorem OA {n:Nat} (hn:n<18446744073709551616) (rest:List UInt8):F5 (Ap n++rest) 0=(n,rest,0):=by
 have h:=ZI 10 n 0 0 rest (Nat.lt_of_lt_of_le hn (by decide)) (by omega) (by omega) (by omega) (by omega)
 simp only[Nat.zero_add,Nat.pow_zero,Nat.mul_one]at h
 simp only[F5,ne_eq,not_true_eq_false,if_false,Ap,h,if_true]
 refine Prod.ext rfl (Prod.ext ?_ rfl)
 simp
theorem AAu {s:List UInt8} {m:Nat} (hm:s.length≤m) (hs:s.length<18446744073709551616) (rest:List UInt8):textIn m (ZH s++rest) 0=(s,rest,0):=by
 have h:=ZI 10 s.length 0 0 (s++rest) (Nat.lt_of_lt_of_le hs (by decide)) (by omega) (by omega) (by omega) (by omega)
 simp only[Nat.zero_add,Nat.pow_zero,Nat.mul_one]at h
 have e:ZH s++rest=IW 10 s.length++(s++rest):=by rw[ZH,Ap,List.append_assoc]
 simp only[textIn,ne_eq,not_true_eq_false,if_false,IU,e,h]
 rw[if_neg (by omega),if_neg (by simp only[List.length_append];omega)]
 simp only[if_true]
 refine Prod.ext ?_ (Prod.ext ?_ rfl)
 ·simp
 ·simp only[]
  rw[←List.append_assoc,List.drop_append_of_le_length (by simp),List.drop_of_length_le (by simp)];rfl
theorem AIX {n:Int} (h:I64 n):zz (Nw n)=n∧Nw n<18446744073709551616:=by
 simp only[I64]at h
 simp only[zz,Nw]
 split<;>refine⟨?_,by omega⟩<;>split<;>omega
end
section
open Go AM
structure Cmt where
 wk:Int
 st:Int
 root:List UInt8
 bt:List (List UInt8)
 deriving DecidableEq
def Je (c:Cmt):Prop:=I64 c.wk∧I64 c.st∧c.root.length=32∧(∀h∈c.bt,h.length=32)∧c.bt.length≤1000000
abbrev tCm:TypeId:=93
abbrev vC (f:Fl) (c:Cmt):V:= .agg tCm [.int .i64 c.wk,.int .i64 c.st,Bh c.root,.lst 45 f (c.bt.map Bh)]
def Iz (c:Cmt):Bool:=Xf c.wk&&Xf c.st&&(decide (1≤c.bt.length)&&decide (c.bt.length≤64))
theorem AVr (x a b:Int):Cl 110 [.int .i64 x,.int .i64 a,.int .i64 b] []=some (.bool (decide (a≤x)&&decide (x≤b)),[]):=by
 rw[AKf]
 by_cases h:a≤x
 ·simp(disch:=first|assumption|omega|(with_reducible rfl)|(simp only[go_sem];done)|(simp only[go_sem];omega)|fail) only[↓reduceIte,↓AO,Nat.reduceAdd,go_sem]
  rw[decide_eq_true h];rfl
 ·simp(disch:=first|assumption|omega|(with_reducible rfl)|(simp only[go_sem];done)|(simp only[go_sem];omega)|fail) only[↓reduceIte,↓AO,Nat.reduceAdd,go_sem]
  rw[decide_eq_false h];rfl
theorem AQm {h:List V} (x a b:Int) (k:V→List V→Rv):BH P CX W (.clo 110 []) [.int .i64 x,.int .i64 a,.int .i64 b] h k=k (.bool (decide (a≤x)&&decide (x≤b))) h:=by
 rw[J7 _ (by kernel_rfl) (by kernel_rfl)]
 simp(disch:=first|assumption|omega|(with_reducible rfl)|(simp only[go_sem];done)|(simp only[go_sem];omega)|fail) only[↓reduceIte,↓AO,Nat.reduceAdd,go_sem,AVr]
theorem ZJ {c:Cmt} (h:Je c):Cl 77 [vC .sh c] []=some (.bool (Iz c),[]):=by
 rw[APC]
 by_cases h1:Xf c.wk=true
 ·have e1:(decide (0≤c.wk)&&decide (c.wk≤63))=true:=by simp only[Xf,Bool.and_eq_true,decide_eq_true_eq]at h1⊢;omega
  by_cases h2:Xf c.st=true
  ·have e2:(decide (0≤c.st)&&decide (c.st≤63))=true:=by simp only[Xf,Bool.and_eq_true,decide_eq_true_eq]at h2⊢;omega
   simp(disch:=first|assumption|omega|(with_reducible rfl)|(simp only[go_sem];done)|(simp only[go_sem];omega)|fail) only[↓reduceIte,↓AO,Nat.reduceAdd,go_sem,AQm,e1,e2]
   rw[Iz,h1,h2]
   congr 3
   rw[Bool.eq_iff_iff];simp;omega
  ·have e2:(decide (0≤c.st)&&decide (c.st≤63))=false:=by
    rw[Bool.eq_false_iff];intro h;apply h2;simp only[Xf,Bool.and_eq_true,decide_eq_true_eq]at h⊢;omega
   simp(disch:=first|assumption|omega|(with_reducible rfl)|(simp only[go_sem];done)|(simp only[go_sem];omega)|fail) only[↓reduceIte,↓AO,Nat.reduceAdd,go_sem,AQm,e1,e2]
   rw[Iz,h1,show Xf c.st=false by simpa using h2];rfl
 ·have e1:(decide (0≤c.wk)&&decide (c.wk≤63))=false:=by
   rw[Bool.eq_false_iff];intro h;apply h1;simp only[Xf,Bool.and_eq_true,decide_eq_true_eq]at h⊢;omega
  simp(disch:=first|assumption|omega|(with_reducible rfl)|(simp only[go_sem];done)|(simp only[go_sem];omega)|fail) only[↓reduceIte,↓AO,Nat.reduceAdd,go_sem,AQm,e1]
  rw[Iz,show Xf c.wk=false by simpa using h1];rfl
def AIY (c:Cmt):List UInt8:=[67]++Ap c.wk.toNat++Ap c.st.toNat++c.root++Ap c.bt.length
def ANm (c:Cmt):List UInt8:=AIY c++c.bt.flatten
def MW (c:Cmt):List UInt8×Nat:=if Iz c=true then(ANm c,0)else([],120)
theorem ATg:Ap 67=[67]:=by decide+kernel
theorem AME {a:V} {bt:List (List UInt8)} (hb:∀h∈bt,h.length=32) (hn:bt.length≤1000000):∀(n i:Nat) (l:List UInt8),i+n=bt.length→l.length≤1000+32*i→
 Vb (Di 1) (.lst 45 .sh (bt.map Bh)) (.int .i64 (bt.length:Int)) (.int .i64 (i:Int)) [a,BN .own l]=some (.tup [.str (l++(bt.drop i).flatten),.int .i64 0],[]):=by
 intro n
 induction n with
 |zero=>
  intro i l hi hl
  rw[List.drop_eq_nil_of_le (by omega),List.flatten_nil,List.append_nil,UD]
  simp(disch:=first|assumption|omega|(with_reducible rfl)|(simp only[go_sem];done)|(simp only[go_sem];omega)|fail) only[↓reduceIte,↓AO,Nat.reduceAdd,go_sem,Ut]
 |succ n ih=>
  intro i l hi hl
  have h:i<bt.length:=by omega
  have hx:=hb _ (List.getElem_mem h)
  have:=ih (i+1) (l++bt[i]) (by omega) (by simp;omega)
  rw[List.drop_eq_getElem_cons h,List.flatten_cons,←List.append_assoc,←this,UD,P9]
  simp(disch:=first|assumption|omega|(with_reducible rfl)|(simp only[go_sem];done)|(simp only[go_sem];omega)|fail) only[↓reduceIte,↓AO,Nat.reduceAdd,go_sem,AQQ h,AAq hx]
theorem QC {c:Cmt} (h:Je c):Cl 42 [vC .sh c] []=some (.tup [.str (MW c).1,.int .i64 ((MW c).2:Int)],[]):=by
 obtain⟨h1,h2,h3,h4,h5⟩:=h
 have hr:=ZJ ⟨h1,h2,h3,h4,h5⟩
 by_cases hc:Iz c=true
 ·rw[MW,if_pos hc]
  have hc':=hc
  simp only[Iz,Xf,Bool.and_eq_true,decide_eq_true_eq]at hc'
  obtain⟨⟨⟨a1,a2⟩,a3,a4⟩,a5,a6⟩:=hc'
  have b1:(Ap c.wk.toNat).length≤10:=Aj 10 _
  have b2:(Ap c.st.toNat).length≤10:=Aj 10 _
  have b3:(Ap c.bt.length).length≤10:=Aj 10 _
  have hl:=AME (a:=vC .sh c) h4 h5 c.bt.length 0 (AIY c) (by omega) (by simp only[AIY,List.length_append,List.length_cons,List.length_nil];omega)
  rw[AFy]
  have e67:Ap (Int.toNat 67)=[67]:=ATg
  have en:(c.bt.length:Int).toNat=c.bt.length:=by omega
  simp only[AIY,List.cons_append,List.nil_append,List.append_assoc,List.drop_zero,c0]at hl
  simp(disch:=first|assumption|omega|(with_reducible rfl)|(simp only[go_sem];done)|(simp only[go_sem];omega)|fail) only[↓reduceIte,↓AO,Nat.reduceAdd,go_sem,hr,hc,Yz,Jb AII,Jb Rt,AED h3,e67,en,hl]
  simp only[ANm,AIY,List.cons_append,List.nil_append,List.append_assoc]
  rfl
 ·rw[MW,if_neg hc,AFy]
  simp(disch:=first|assumption|omega|(with_reducible rfl)|(simp only[go_sem];done)|(simp only[go_sem];omega)|fail) only[↓reduceIte,↓AO,Nat.reduceAdd,go_sem,hr]
  rfl
end
section
open Go AM
end
section
open Go AM
def cz:Cmt:=⟨0,0,z32,[]⟩
theorem ADO:Je cz:=⟨by simp[I64,cz],by simp[I64,cz],rfl,by simp[cz],by simp[cz]⟩
def vGC (r:Cmt×Nat):V:= .tup [vC .sh r.1,.int .i64 (r.2:Int)]
section
variable {a b c:V} {s:List UInt8} {e:Nat}
end
end
section
open Go AM
def mB (l:List Msg):V:= .lst 103 .sh (l.map Ac)
abbrev vBs (f:Fl) (L:List (List Msg)):V:= .lst 36 f (L.map mB)
def AMF (L:List (List Msg)):Prop:=(∀l∈L,(∀m∈l,MOk m)∧l.length≤1000000)∧L.length≤1000
theorem ATh {L:List (List Msg)} {i:Nat} (h:i<L.length):(L.map mB)[i]?=some (mB L[i]):=by simp[h]
@[go_sem] theorem AUi (l:List Msg):(mB l).weak=mB l:=(rfl)
@[go_sem] theorem AUj (l:List Msg):(mB l).norm=mB l:=(rfl)
theorem Ux (l:List Msg):(brootB l).length=32:=N8 _ _
theorem Gf (l:List Vtx):(vrootB l).length=32:=N8 _ _
attribute [local irreducible] brootB vrootB
theorem AMG {l:List Msg} (hl:∀m∈l,MOk m) (hn:l.length≤1000000):Cl 76 [mB l] []=some (Bh (brootB l),[]):=AIW hl hn
theorem AMH {a:V} (ha:a.away 1=true) {f:Fl} {c:Cmt} {l:List Msg} (hl:∀m∈l,MOk m) (hn:l.length≤1000000) (k:V→List V→Rv):
 Dt P CX W (some (.ref 1 [] 94)) (.clo 76 []) [mB l] [a,vC f c] k=k (Bh (brootB l)) [a,vC f c]:=by
 have w:BM 1 [a,void]=true:=by simp only[BM,ha,Bool.true_and];rfl
 simp only[Dt,List.getElem?_cons_succ,List.getElem?_cons_zero,List.set_cons_succ,List.set_cons_zero,w]
 rw[if_pos (show(V.away 1 (.clo 76 [])&&BM 1 [mB l]&&true)=true from rfl),J7 _ (by kernel_rfl) (by kernel_rfl)]
 have e1:AB [a,void] ([mB l]++[])=[mB l]:=rfl
 rw[e1]
 refine(AA (AMG hl hn) _).trans ?_
 rw[if_pos (by rw[(V.PF _ (Rk _)).away,w];rfl)];rfl
def TT (w st:Int) (l:List Vtx) (L:List (List Msg)):Cmt:=⟨w,st,vrootB l,L.map brootB⟩
theorem AMI {a:V} {f:Fl} {c:Cmt} (K:V×List V→Rv):(BR [a,vC f c] 55 (.ref 1 [3] 55)).bind K=K (.lst 45 f (c.bt.map Bh),[a,vC f.wk c]):=by
 have:BR [a,vC f c] 55 (.ref 1 [3] 55)=some (.lst 45 f (c.bt.map Bh),[a,vC f.wk c]):=by
  simp only[BR,if_true,rd,wr,List.getElem?_cons_succ,List.getElem?_cons_zero,Option.bind_some,V.at,V.upd,UU,Option.map_some,List.set_cons_succ,List.set_cons_zero]
 rw[this];rfl
theorem XK {w st:Int} (hw:I64 w) (hs:I64 st) (l:List Vtx) {L:List (List Msg)} (hL:AMF L):Je (TT w st l L):=by
 simp only[Je,TT]
 refine⟨hw,hs,Gf l,?_,?_⟩
 ·intro h hh
  obtain⟨x,_,rfl⟩:=List.mem_map.1 hh
  exact Ux x
 ·have:=hL.2
  simp only[List.length_map];omega
def QD (c:Cmt):Cmt×Nat:=if Iz c=true then(c,0)else(cz,120)
theorem AMJ {w st:Int} {r:List UInt8} (hw:I64 w) (hs:I64 st) (hr:r.length=32) {L:List (List Msg)} (hL:AMF L):∀(n i:Nat) (f:Fl) (bt:List (List UInt8)),i+n=L.length→bt.length=i→(∀h∈bt,h.length=32)→(f= .own∨f= .nil)→
 Va (.ref 0 [] 94) (.ref 1 [] 94) (vBs .sh L) (.int .i64 (L.length:Int)) (.int .i64 (i:Int)) [vC .nil cz,vC f ⟨w,st,r,bt⟩]=
  some (vGC (QD ⟨w,st,r,bt++(L.drop i).map brootB⟩),[]):=by
 have h1000:=hL.2
 intro n
 induction n with
 |zero=>
  intro i f bt hi hb hbt hf
  rw[List.drop_eq_nil_of_le (by omega),List.map_nil,List.append_nil]
  have hok:Je ⟨w,st,r,bt⟩:=by
   simp only[Je]
   exact⟨hw,hs,hr,hbt,by omega⟩
  have hr:=ZJ hok
  rw[QD,vGC]
  generalize Cmt.mk w st r bt=c at*
  by_cases hc:Iz c=true
  ·rw[if_pos hc,Nb,P9]
   rcases hf with rfl|rfl
   ·simp(disch:=first|assumption|omega|(with_reducible rfl)|(simp only[go_sem];done)|(simp only[go_sem];omega)|fail) only[↓reduceIte,↓AO,Nat.reduceAdd,go_sem,hr,hc]
    rfl
   ·simp(disch:=first|assumption|omega|(with_reducible rfl)|(simp only[go_sem];done)|(simp only[go_sem];omega)|fail) only[↓reduceIte,↓AO,Nat.reduceAdd,go_sem,hr,hc]
    rfl
  ·rw[if_neg hc,Nb,P9]
   rcases hf with rfl|rfl
   ·simp(disch:=first|assumption|omega|(with_reducible rfl)|(simp only[go_sem];done)|(simp only[go_sem];omega)|fail) only[↓reduceIte,↓AO,Nat.reduceAdd,go_sem,hr,hc]
    rfl
   ·simp(disch:=first|assumption|omega|(with_reducible rfl)|(simp only[go_sem];done)|(simp only[go_sem];omega)|fail) only[↓reduceIte,↓AO,Nat.reduceAdd,go_sem,hr,hc]
    rfl
 |succ n ih=>
  intro i f bt hi hb hbt hf
  have h:i<L.length:=by omega
  obtain⟨m1,m2⟩:=hL.1 _ (List.getElem_mem h)
  have hbl:=Ux L[i]
  have:=ih (i+1) .own (bt++[brootB L[i]]) (by omega) (by simp;omega) (by
   intro x hx
   rcases List.mem_append.1 hx with hx|hx
   ·exact hbt x hx
   ·rw[List.mem_singleton.1 hx];exact hbl) (Or.inl rfl)
  have e:bt++[brootB L[i]]++(L.drop (i+1)).map brootB=bt++(L.drop i).map brootB:=by
   rw[List.drop_eq_getElem_cons h,List.map_cons,List.append_assoc];rfl
  rw[e]at this
  rw[←this,Nb]
  have sb:Du (.ref 1 [] 94) (.ref 1 [3] 55)=true:=rfl
  have hv:vC .own ⟨w,st,r,bt++[brootB L[i]]⟩= .agg tCm [.int .i64 w,.int .i64 st,Bh r,.lst 45 .own (bt.map Bh++[Bh (brootB L[i])])]:=by simp[vC]
  rw[hv]
  have hx:=ATh h
  refine(AA (show AL .lss (.int .i64 (i:Int)) (.int .i64 (L.length:Int))=some (.bool true)by rw[b_lss,decide_eq_true (by omega)]) _).trans ?_
  rw[CO]
  have ix:D9 36 (vBs .sh L) (.int .i64 (i:Int))=some (.rop 36 (mB L[i])):=by rw[DL,hx];rfl
  refine(AA ix _).trans ?_
  refine(AA (show CU _ 36 (.rop 36 (mB L[i]))=some (mB L[i])from rfl) _).trans ?_
  refine(AA (APc ..) _).trans ?_
  refine(if_pos sb).trans ?_
  refine(AMI _).trans ?_
  refine(AMH rfl m1 m2 _).trans ?_
  rcases hf with rfl|rfl
  ·simp(disch:=first|assumption|omega|(with_reducible rfl)|(simp only[go_sem];done)|(simp only[go_sem];omega)|fail) only[↓reduceIte,↓AO,Nat.reduceAdd,go_sem]
  ·simp(disch:=first|assumption|omega|(with_reducible rfl)|(simp only[go_sem];done)|(simp only[go_sem];omega)|fail) only[↓reduceIte,↓AO,Nat.reduceAdd,go_sem]
theorem QE {w st:Int} (hw:I64 w) (hs:I64 st) {l:List Vtx} (hl:∀x∈l,GZ x) (hn:l.length≤1000000) {L:List (List Msg)} (hL:AMF L):
 Cl 41 [.int .i64 w,.int .i64 st,.lst 70 .sh (l.map A7),vBs .sh L] []=some (vGC (QD (TT w st l L)),[]):=by
 have h1000:=hL.2
 have hv:=Y2 hl hn
 have h:=AMJ hw hs (Gf l) hL L.length 0 .nil [] (by omega) rfl (by simp) (Or.inr rfl)
 have hrl:=Gf l
 rw[List.nil_append,List.drop_zero]at h
 simp only[c0,List.map_nil]at h
 rw[TT,←h,AOo,P9]
 generalize vrootB l=r at*
 simp(disch:=first|assumption|omega|(with_reducible rfl)|(simp only[go_sem];done)|(simp only[go_sem];omega)|fail) only[↓reduceIte,↓AO,Nat.reduceAdd,go_sem,hv,Rk,P5]
 rfl
end
section
open Go AM
theorem AIa {f:FuncId} {e:TypeId} (ht:CX.two f=true) (h1:Cl f [.lst e .nil []] []=some (.lst e .sh [],[])) (h2:Cl f [.lst e .non []] []=some (.lst e .sh [],[])):CT f [.lst e .sh []]=some (.lst e .sh [],[]):=by
 show Hr CX W f _=_
 unfold Hr
 rw[ht]
 show(Cl f [.lst e .nil []] []).bind _=_
 rw[h1]
 show(Cl f [.lst e .non []] []).bind _=_
 rw[h2]
 show(AFO (.lst e .sh []) (.lst e .sh [])).bind _=_
 simp[AFO]
theorem ADP {f:FuncId} {e:TypeId} {x:V} {xs:List V} (ht:CX.two f=true):CT f [.lst e .sh (x::xs)]=Cl f [.lst e .sh (x::xs)] []:=by
 show Hr CX W f _=_
 unfold Hr
 rw[ht];rfl
theorem OB {l:List E0} (hl:l.length≤1000000):CT 22 [.lst 52 .sh (l.map EX)]=some (.lst 52 .sh (l.map EX),[]):=by
 cases l with
 |nil=>
  refine AIa (by kernel_rfl) ?_ ?_
  ·rw[AAF];rfl
  ·rw[AAF];rfl
 |cons x l=>
  rw[List.map_cons,ADP (by kernel_rfl)]
  have ap:∀h:List V,FU 52 (tyG 51) false h (.lst 52 .own []) (.lst 52 .sh (EX x::l.map EX))=some (.lst 52 .own ((x::l).map EX)):=fun h=>by
   rw[show EX x::l.map EX=(x::l).map EX from rfl,Bj (V.PFL _ (ADE (x::l))).clean (all_map ADF _) (by simp at hl⊢;omega),List.nil_append];rfl
  have en:KY .eql (.lst 52 .sh (EX x::l.map EX)) (.lst 52 .nil [])=some (.bool false):=rfl
  rw[AAF]
  simp(disch:=first|assumption|omega|(with_reducible rfl)|(simp only[go_sem];done)|(simp only[go_sem];omega)|fail) only[↓reduceIte,↓AO,Nat.reduceAdd,go_sem,ap,en]
  rfl
theorem AEL {l:List Vtx} (hl:l.length≤1000000):CT 45 [.lst 70 .sh (l.map A7)]=some (.lst 70 .sh (l.map A7),[]):=by
 cases l with
 |nil=>
  refine AIa (by kernel_rfl) ?_ ?_
  ·rw[AAH];rfl
  ·rw[AAH];rfl
 |cons x l=>
  rw[List.map_cons,ADP (by kernel_rfl)]
  have ap:∀h:List V,FU 70 (tyG Ld) false h (.lst 70 .own []) (.lst 70 .sh (A7 x::l.map A7))=some (.lst 70 .own ((x::l).map A7)):=fun h=>by
   rw[show A7 x::l.map A7=(x::l).map A7 from rfl,Bj (V.PFL _ (P5 (x::l))).clean (all_map ALo _) (by simp at hl⊢;omega),List.nil_append];rfl
  have en:KY .eql (.lst 70 .sh (A7 x::l.map A7)) (.lst 70 .nil [])=some (.bool false):=rfl
  rw[AAH]
  simp(disch:=first|assumption|omega|(with_reducible rfl)|(simp only[go_sem];done)|(simp only[go_sem];omega)|fail) only[↓reduceIte,↓AO,Nat.reduceAdd,go_sem,ap,en]
  rfl
end
section
open Go AM
abbrev kE (e:E0):Int×Int:=(e.fr,e.to)
theorem AIb (es:List E0) {i:Nat} (h:i<es.length):((es.take (i+1)).map kE).Nodup↔((es.take i).map kE).Nodup∧(es.take i).any (fun x=>decide (kE x=kE es[i]))=false:=by
 rw[List.take_add_one,List.getElem?_eq_getElem h,Option.toList_some,List.map_append,List.nodup_append]
 simp only[List.map_cons,List.map_nil,List.nodup_cons,List.not_mem_nil,not_false_eq_true,List.nodup_nil,and_self,true_and,List.mem_cons,or_false]
 refine and_congr_right fun _=> ?_
 rw[List.any_eq_false]
 constructor
 ·intro h x hx;simp only[decide_eq_true_eq];exact fun e=>h (kE x) (List.mem_map_of_mem hx) _ rfl e
 ·rintro h a ha b rfl e
  obtain⟨x,hx,rfl⟩:=List.mem_map.1 ha
  exact h x hx (decide_eq_true e)
theorem ATi {g:Grf} (hl:g.es.length<1000000) {i:Nat} (hi:i<g.es.length):∀(n k:Nat) (b:Bool),k+n=i→
 Ve rG (.bool b) (.int .i64 (i:Int)) (.ref 1 [] 52) (.int .i64 (k:Int)) 1 [vG .sh g,EX g.es[i]]=
  QU rG (.bool (b||((g.es.take i).drop k).any (fun x=>decide (kE x=kE g.es[i])))) (.int .i64 ((i+1:Nat):Int)) [vG .sh g]:=by
 intro n
 induction n with
 |zero=>
  intro k b hk
  rw[List.drop_eq_nil_of_le (by simp;omega),List.any_nil,Bool.or_false,UF]
  simp(disch:=first|assumption|omega|(with_reducible rfl)|(simp only[go_sem];done)|(simp only[go_sem];omega)|fail) only[↓reduceIte,↓AO,Nat.reduceAdd,go_sem]
 |succ n ih=>
  intro k b hk
  have hk2:k<g.es.length:=by omega
  have hx:=Yu hk2
  have hlen:k<(g.es.take i).length:=by simp;omega
  have hd:(g.es.take i).drop k=g.es[k]::(g.es.take i).drop (k+1):=by
   rw[List.drop_eq_getElem_cons hlen,List.getElem_take]
  rw[hd,List.any_cons,UF]
  cases b with
  |true=>
   have:=ih (k+1) true (by omega)
   rw[Bool.true_or]at this⊢
   rw[←this]
   simp(disch:=first|assumption|omega|(with_reducible rfl)|(simp only[go_sem];done)|(simp only[go_sem];omega)|fail) only[↓reduceIte,↓AO,Nat.reduceAdd,go_sem]
  |false=>
   rw[Bool.false_or]
   by_cases h1:g.es[k].fr=g.es[i].fr
   ·by_cases h2:g.es[k].to=g.es[i].to
    ·have:=ih (k+1) true (by omega)
     rw[Bool.true_or]at this
     rw[decide_eq_true (show kE g.es[k]=kE g.es[i]by rw[kE,h1,h2]),Bool.true_or,←this]
     generalize hek:g.es[k]=a at*
     generalize hei:g.es[i]=c at*
     simp only[EX]at hx⊢
     simp(disch:=first|assumption|omega|(with_reducible rfl)|(simp only[go_sem];done)|(simp only[go_sem];omega)|fail) only[↓reduceIte,↓AO,Nat.reduceAdd,go_sem,hx,h1,h2,decide_true]
    ·have:=ih (k+1) false (by omega)
     rw[Bool.false_or]at this
     rw[decide_eq_false (show ¬kE g.es[k]=kE g.es[i]from fun e=>h2 (Prod.mk.inj e).2),Bool.false_or,←this]
     generalize hek:g.es[k]=a at*
     generalize hei:g.es[i]=c at*
     simp only[EX]at hx⊢
     simp(disch:=first|assumption|omega|(with_reducible rfl)|(simp only[go_sem];done)|(simp only[go_sem];omega)|fail) only[↓reduceIte,↓AO,Nat.reduceAdd,go_sem,hx,h1,decide_eq_false h2]
   ·have:=ih (k+1) false (by omega)
    rw[Bool.false_or]at this
    rw[decide_eq_false (show ¬kE g.es[k]=kE g.es[i]from fun e=>h1 (Prod.mk.inj e).1),Bool.false_or,←this]
    generalize hek:g.es[k]=a at*
    generalize hei:g.es[i]=c at*
    simp only[EX]at hx⊢
    simp(disch:=first|assumption|omega|(with_reducible rfl)|(simp only[go_sem];done)|(simp only[go_sem];omega)|fail) only[↓reduceIte,↓AO,Nat.reduceAdd,go_sem,hx]
def r5 (g:Grf) (i:Nat):Int:=if(g.es.drop i).any (F7 g.n)=true then 50 else if(g.es.map kE).Nodup then 0 else 51
theorem ATj {g:Grf} (hl:g.es.length<1000000):∀(n i:Nat) (b:Bool),i+n=g.es.length→b= !decide ((g.es.take i).map kE).Nodup→
 QU rG (.bool b) (.int .i64 (i:Int)) [vG .sh g]=some (.int .i64 (r5 g i),[]):=by
 intro n
 induction n with
 |zero=>
  intro i b hi hb
  rw[List.take_of_length_le (by omega)]at hb
  rw[r5,List.drop_eq_nil_of_le (by omega),List.any_nil,UG]
  by_cases hn:(g.es.map kE).Nodup
  ·rw[decide_eq_true hn]at hb
   subst hb
   rw[if_pos hn]
   simp(disch:=first|assumption|omega|(with_reducible rfl)|(simp only[go_sem];done)|(simp only[go_sem];omega)|fail) only[↓reduceIte,↓AO,Nat.reduceAdd,go_sem]
   rfl
  ·rw[decide_eq_false hn]at hb
   subst hb
   rw[if_neg hn]
   simp(disch:=first|assumption|omega|(with_reducible rfl)|(simp only[go_sem];done)|(simp only[go_sem];omega)|fail) only[↓reduceIte,↓AO,Nat.reduceAdd,go_sem]
   rfl
 |succ n ih=>
  intro i b hi hb
  have h:i<g.es.length:=by omega
  have hx:=Yu h
  have l2:=ATi hl h i 0 b (by omega)
  rw[List.drop_zero]at l2
  have hk:=AIb g.es h
  have ih':=ih (i+1) (b||(g.es.take i).any (fun x=>decide (kE x=kE g.es[i]))) (by omega) (by
   subst hb
   rw[Bool.eq_iff_iff]
   by_cases p:((g.es.take i).map kE).Nodup<;>cases q:(g.es.take i).any (fun x=>decide (kE x=kE g.es[i]))<;>simp_all)
  rw[ih']at l2
  have hbad:F7 g.n g.es[i]=true→r5 g i=50:=fun ho=>by rw[r5,List.drop_eq_getElem_cons h,List.any_cons,ho];rfl
  have hok:F7 g.n g.es[i]=false→r5 g i=r5 g (i+1):=fun ho=>by rw[r5,r5,List.drop_eq_getElem_cons h,List.any_cons,ho];rfl
  generalize r5 g i=r at*
  generalize r5 g (i+1)=r' at*
  generalize he:g.es[i]=e at*
  rw[UG]
  simp only[EX,c0]at hx l2
  repeat' first|rfl|refine AAl (fun _=> ?_) (fun _=> ?_)|refine AAm (fun _=> ?_) (fun _=> ?_)|simp(disch:=first|assumption|omega|(with_reducible rfl)|(simp only[go_sem];done)|(simp only[go_sem];omega)|fail) only[↓reduceIte,↓AO,Nat.reduceAdd,go_sem,hx,l2]
  all_goals simp only[F7]at hbad hok
  all_goals simp_all
  all_goals omega
theorem AMK {g:Grf} (hl:g.es.length<1000000):Cl 51 [vG .sh g] []=some (.int .i64 (F8 g),[]):=by
 have h:=ATj hl g.es.length 0 false (by omega) (by simp)
 simp only[c0]at h
 have e:∀(a:1≤g.n) (b:g.n≤64) (c:g.es.length≤512),F8 g=r5 g 0:=by
  intro a b c
  rw[F8,r5,List.drop_zero]
  by_cases ho:g.es.any (F7 g.n)=true
  ·rw[if_neg (fun h=>by rw[ho]at h;cases h.2.2.2),if_pos ho]
  ·rw[if_pos ⟨a,b,c,by simpa using ho⟩,if_neg ho]
 by_cases h1:g.n<1
 ·rw[F8,if_neg (by omega),Vf]
  simp(disch:=first|assumption|omega|(with_reducible rfl)|(simp only[go_sem];done)|(simp only[go_sem];omega)|fail) only[↓reduceIte,↓AO,Nat.reduceAdd,go_sem]
 by_cases h2:64<g.n
 ·rw[F8,if_neg (by omega),Vf]
  simp(disch:=first|assumption|omega|(with_reducible rfl)|(simp only[go_sem];done)|(simp only[go_sem];omega)|fail) only[↓reduceIte,↓AO,Nat.reduceAdd,go_sem]
 by_cases h3:512<g.es.length
 ·rw[F8,if_neg (by omega),Vf]
  simp(disch:=first|assumption|omega|(with_reducible rfl)|(simp only[go_sem];done)|(simp only[go_sem];omega)|fail) only[↓reduceIte,↓AO,Nat.reduceAdd,go_sem]
 rw[e (by omega) (by omega) (by omega),Vf]
 simp(disch:=first|assumption|omega|(with_reducible rfl)|(simp only[go_sem];done)|(simp only[go_sem];omega)|fail) only[↓reduceIte,↓AO,Nat.reduceAdd,go_sem,h]
end
section
open Go AM
theorem AAv {g:Grf} (hl:g.es.length<1000000) (j:Job):Cl 19 [vG .sh g,vJ j] []=some (.bool (Dz g j),[]):=by
 have hg:=AMK hl
 rw[AOX]
 repeat' first|rfl|refine AAl (fun _=> ?_) (fun _=> ?_)|refine AAm (fun _=> ?_) (fun _=> ?_)|simp(disch:=first|assumption|omega|(with_reducible rfl)|(simp only[go_sem];done)|(simp only[go_sem];omega)|fail) only[↓reduceIte,↓AO,Nat.reduceAdd,go_sem,hg,AEE]
 all_goals (rw[Dz];simp_all)
 all_goals omega
end
section
open Go AM
def sS (l:List (List UInt8)):V:= .lst 9 .sh (l.map V.str)
@[go_sem] theorem AUk (l:List (List UInt8)):(sS l).weak=sS l:=(rfl)
@[go_sem] theorem ATk (l:List (List UInt8)):(sS l).pl=true:=AIE l
@[go_sem] theorem AVs (l:List (List (List UInt8))):Iu (l.map sS)=true:=DC ATk l
@[go_sem] theorem ARp (l:List Bool):Iu (l.map V.bool)=true:=DC (fun _=>rfl) l
@[go_sem] theorem AQo (l:List (List UInt8)):tyL 9 (sS l)=true:=(rfl)
@[go_sem] theorem AVt (l:List (List (List UInt8))):(l.map sS).all (tyL 9)=true:=all_map AQo l
@[go_sem] theorem ARq (l:List Bool):(l.map V.bool).all AM.tyB=true:=all_map (fun _=>rfl) l
@[go_sem] theorem ARr (l:List (List UInt8)):Iu (l.map Bh)=true:=DC Rk l
theorem Lj {f:FuncId} {id:Nat} {p:List Nat} {t:TypeId} {vs vs' h:List V} {v r:V} (he:CX.ext f=false) (hp:CX.pure f=true) (hh:h[id]?=some v) (haw:BM id (h.set id void)=true)
 (hv:BM id vs=true) (hrf:AB (h.set id void) vs=vs') (hr:r.away id=true) (e:Cl f vs' []=some (r,[])) (k:V→List V→Rv) (hs:(CX.seq f).1=0:=by kernel_rfl) (ht:CX.two f=false:=by kernel_rfl):
 Dt P CX W (some (.ref id p t)) (.clo f []) vs h k=k r h:=by
 have hlt:=IB hh
 simp only[Dt,hh,haw,hv]
 rw[if_pos (show(V.away id (.clo f [])&&true&&true)=true from rfl),J7 _ he hp hs ht,List.append_nil,hrf]
 refine(AA e _).trans ?_
 rw[if_pos (by rw[hr,haw,List.length_set];simp only[Bool.true_and];exact Nat.ble_eq_true_of_le hlt),List.set_set]
 congr 1
 exact(List.ext_getElem? fun i=>by
  by_cases hi:i=id
  ·subst hi;rw[List.getElem?_set_self hlt,hh]
  ·rw[List.getElem?_set_ne (Ne.symm hi)])
theorem Rx {h:List V} {id i:Nat} {u e t:TypeId} {f:Fl} {fs xs:List V} (hh:h[id]?=some (.agg u fs)) (hf:fs[i]?=some (.lst e f xs)):BR h t (.ref id [i] t)=some (.lst e f xs,h.set id (.agg u (fs.set i (.lst e f.wk xs)))):=by
 simp only[BR,if_true,rd,wr,hh,Option.bind_some,V.at,V.upd,hf,UU,Option.map_some]
@[go_sem] theorem AVu (t u:TypeId) (xs ys:List V):LQ true [.lst t .own xs,.lst u .own ys]=true:=(rfl)
@[go_sem] theorem AVv (t u:TypeId) (xs ys:List V):LQ true [.lst t .nil xs,.lst u .own ys]=true:=(rfl)
def O7 (g:Grf) (j:Job) (N w:Nat):List Vtx:=(ofL g.n.toNat N w).map fun(v:Nat)=>firstX j (v:Int)
theorem AEM (j:Job) {v:Nat} (hv:v<64):GZ (firstX j (v:Int)):=by
 have: -9223372036854775808≤(37*(v:Int)+11).tmod 64∧(37*(v:Int)+11).tmod 64<9223372036854775808:=by
  rw[Int.tmod_eq_emod_of_nonneg (by omega)];omega
 simp only[GZ,firstX,I64]
 repeat' split
 all_goals (simp only[];omega)
theorem AML {g:Grf} (hg:g.n≤64) (j:Job) (N w:Nat):∀x∈O7 g j N w,GZ x:=by
 intro x hx
 obtain⟨v,hv,rfl⟩:=List.mem_map.1 hx
 have:=Rw hv
 exact AEM j (by omega)
theorem AIc (g:Grf) (j:Job) (N w:Nat):(O7 g j N w).length≤g.n.toNat:=by
 rw[O7,List.length_map];exact MR _ _ _
attribute [local irreducible] vrootB vtxB firstX
theorem KI {g:Grf} {j:Job} (hj:Dz g j=true):1≤g.n∧g.n≤64:=by
 have hg:F8 g=0:=(of_decide_eq_true hj).1
 rw[F8]at hg
 by_cases h:1≤g.n∧g.n≤64∧g.es.length≤512∧g.es.any (F7 g.n)=false
 ·exact⟨h.1,h.2.1⟩
 ·rw[if_neg h]at hg;omega
theorem ZK {g:Grf} (hl:g.es.length<1000000):Cl 7 [vG .sh g] []=some (vG .sh g,[]):=by
 rw[AR8]
 have ap:∀h:List V,FU 52 (tyG 51) false h (.lst 52 .own []) (.lst 52 .sh (g.es.map EX))=some (.lst 52 .own ([]++g.es.map EX)):=fun h=>
  Bj (V.PFL _ (ADE g.es)).clean (all_map ADF _) (by simp;omega) _ _ _
 simp(disch:=first|assumption|omega|(with_reducible rfl)|(simp only[go_sem];done)|(simp only[go_sem];omega)|fail) only[↓reduceIte,↓AO,Nat.reduceAdd,go_sem,ap]
end
section
open Go AM
abbrev tWk:TypeId:=67
abbrev vWk (g:Grf) (j:Job) (N w:Nat) (f:Fl) (xs:List Vtx):V:= .agg tWk [vG .sh g,vJ j,.int .i64 (N:Int),.int .i64 (w:Int),.int .i64 0,.lst 70 .nil [],.lst 70 f (xs.map A7),.bool false]
section
variable {a b c:V}
end
end
section
open Go AM
abbrev Cb (f:Fl) (l:List Vtx):V:= .lst 70 f (l.map A7)
structure Wkr where
 g:Grf
 j:Job
 N:Nat
 w:Nat
 step:Int
 prev:List Vtx
 now:List Vtx
 op:Bool
abbrev Dq (fp fn:Fl) (k:Wkr):V:= .agg tWk [vG .sh k.g,vJ k.j,.int .i64 (k.N:Int),.int .i64 (k.w:Int),.int .i64 k.step,Cb fp k.prev,Cb fn k.now,.bool k.op]
structure WkOk (k:Wkr):Prop where
 job:Dz k.g k.j=true
 n1:1≤k.N
 n64:k.N≤64
 w:k.w<k.N
 st:I64 k.step
 now:∀x∈k.now,GZ x
 len:k.now.length≤64
def BK (j:Job) (ms:List Msg) (x:Vtx):Vtx×Int:=(⟨x.id,x.val,x.act,(Es j.tag ms x.id).2.1,(Es j.tag ms x.id).1⟩,(Es j.tag ms x.id).2.2)
def DY (F:Vtx→Vtx×Int):List Vtx→List Vtx×Int
 |[]=>([],0)
 |x::l=>if(F x).2=0 then((F x).1::(DY F l).1,(DY F l).2)else([(F x).1],(F x).2)
theorem ADR {F:Vtx→Vtx×Int}:∀{l:List Vtx},(DY F l).2=0→(DY F l).1=l.map fun x=>(F x).1
 |[],_=>rfl
 |x::l,h=>by
  rw[DY]at h⊢
  split at h
  ·rename_i h1;rw[if_pos h1,ADR h];rfl
  ·rename_i h1;exact absurd h h1
open Classical in
def AV (g:Grf) (j:Job) (at_:Int) (x:Vtx):Vtx×List Msg×Int:=
 if h:Dz g j=true∧GZ x then
  (Classical.choose (FK h.1 at_ h.2),Classical.choose (Classical.choose_spec (FK h.1 at_ h.2)),Classical.choose (Classical.choose_spec (Classical.choose_spec (FK h.1 at_ h.2))))
 else(x,[],0)
theorem Eb {g:Grf} {j:Job} (hj:Dz g j=true) (at_:Int) {x:Vtx} (hx:GZ x):
 Cl 39 [vG .sh g,vJ j,.int .i64 at_,A7 x] []=some (.tup [A7 (AV g j at_ x).1,BZ .sh (AV g j at_ x).2.1,.int .i64 (AV g j at_ x).2.2],[])∧GZ (AV g j at_ x).1∧
  ((AV g j at_ x).2.2=0→(AV g j at_ x).1.id=x.id∧(AV g j at_ x).1.has=false)∧(∀m∈(AV g j at_ x).2.1,MIn m)∧(AV g j at_ x).2.1.length≤1000:=by
 have h:Dz g j=true∧GZ x:=⟨hj,hx⟩
 have e:AV g j at_ x=(Classical.choose (FK h.1 at_ h.2),Classical.choose (Classical.choose_spec (FK h.1 at_ h.2)),Classical.choose (Classical.choose_spec (Classical.choose_spec (FK h.1 at_ h.2)))):=by
  unfold AV;rw[dif_pos h]
 have s:=Classical.choose_spec (Classical.choose_spec (Classical.choose_spec (FK h.1 at_ h.2)))
 rw[e]
 exact⟨s.1,s.2.1,s.2.2.1,s.2.2.2.1,s.2.2.2.2.1⟩
theorem AEN {g:Grf} {j:Job} (hj:Dz g j=true) (at_:Int) {x:Vtx} (hx:GZ x) (h0:(AV g j at_ x).2.2=0) (h1:0≤x.id) (h2:x.id<64) (h3:x.has=false→x.inn=0):Em (AV g j at_ x).1=true:=by
 have h:Dz g j=true∧GZ x:=⟨hj,hx⟩
 have e:AV g j at_ x=(Classical.choose (FK h.1 at_ h.2),Classical.choose (Classical.choose_spec (FK h.1 at_ h.2)),Classical.choose (Classical.choose_spec (Classical.choose_spec (FK h.1 at_ h.2)))):=by
  unfold AV;rw[dif_pos h]
 have s:=Classical.choose_spec (Classical.choose_spec (Classical.choose_spec (FK h.1 at_ h.2)))
 rw[e]at h0⊢
 exact s.2.2.2.2.2.2 h0 h1 h2 h3
def Bg (F:Vtx→Vtx×List Msg×Int):List Vtx→List Vtx×List Msg×Int
 |[]=>([],[],0)
 |x::l=>if(F x).2.2=0 then((F x).1::(Bg F l).1,(F x).2.1++(Bg F l).2.1,(Bg F l).2.2)else([(F x).1],(F x).2.1,(F x).2.2)
theorem ADS {F:Vtx→Vtx×List Msg×Int}:∀{l:List Vtx},(Bg F l).2.2=0→(Bg F l).1=l.map (fun x=>(F x).1)∧∀x∈l,(F x).2.2=0
 |[],_=>⟨rfl,by simp⟩
 |x::l,h=>by
  rw[Bg]at h⊢
  split at h
  ·rename_i h1
   rw[if_pos h1]
   obtain⟨a,b⟩:=ADS h
   exact⟨by simp only[a,List.map_cons],fun y hy=>by rcases List.mem_cons.1 hy with rfl|hy;exact h1;exact b y hy⟩
  ·rename_i h1;exact absurd h h1
theorem ZL {F:Vtx→Vtx×List Msg×Int} {l0:List Vtx} (hF:∀x∈l0,(F x).2.1.length≤1000∧(∀m∈(F x).2.1,MIn m)∧GZ (F x).1):∀{l:List Vtx},(∀x∈l,x∈l0)→(Bg F l).1.length≤l.length∧(Bg F l).2.1.length≤1000*l.length∧(∀m∈(Bg F l).2.1,MIn m)∧∀x∈(Bg F l).1,GZ x
 |[],_=>⟨by simp[Bg],by simp[Bg],by simp[Bg],by simp[Bg]⟩
 |x::l,h=>by
  obtain⟨a,b,c,d⟩:=ZL hF (l:=l) fun y hy=>h y (List.mem_cons_of_mem _ hy)
  obtain⟨f1,f2,f3⟩:=hF x (h x List.mem_cons_self)
  rw[Bg]
  split
  ·refine⟨by simp;omega,by simp;omega,fun m hm=> ?_,fun y hy=> ?_⟩
   ·rcases List.mem_append.1 hm with hm|hm;exact f2 m hm;exact c m hm
   ·rcases List.mem_cons.1 hy with rfl|hy;exact f3;exact d y hy
  ·exact⟨by simp,by simp;omega,f2,fun y hy=>by rw[List.mem_singleton]at hy;subst hy;exact f3⟩
def FT (k:Wkr) (at_:Int) (ms:List Msg):List Vtx×Int:=DY (BK k.j ms) k.now
def DF (k:Wkr) (at_:Int) (ms:List Msg):List Vtx×List Msg×Int:=Bg (AV k.g k.j at_) (FT k at_ ms).1
def JI (k:Wkr) (at_:Int) (ms:List Msg):Int:=if(FT k at_ ms).2=0 then(DF k at_ ms).2.2 else(FT k at_ ms).2
def EN (k:Wkr) (at_:Int) (ms:List Msg):List (List Msg):=MS k.N (DF k at_ ms).2.1
def doC (k:Wkr) (at_:Int) (ms:List Msg):List UInt8:=(MW (QD (TT (k.w:Int) at_ (DF k at_ ms).1 (EN k at_ ms))).1).1
def ZM (k:Wkr) (at_:Int) (ms:List Msg):Wkr:=⟨k.g,k.j,k.N,k.w,at_+1,k.now,(DF k at_ ms).1,true⟩
abbrev JF (e:Int) (c:List UInt8) (f:Fl) (bs:List (List UInt8)):V:= .agg 40 [.int .i64 e,.str c,.lst 9 f (bs.map V.str)]
theorem Ry {k:Wkr} (hk:WkOk k) (at_:Int) (ms:List Msg):(FT k at_ ms).1.length≤64∧∀x∈(FT k at_ ms).1,GZ x:=by
 have key:∀l:List Vtx,(∀x∈l,GZ x)→(DY (BK k.j ms) l).1.length≤l.length∧∀x∈(DY (BK k.j ms) l).1,GZ x:=by
  have one:∀x,GZ x→GZ (BK k.j ms x).1:=fun x hx=>by
   have:=Y6 k.j.tag ms x.id
   exact⟨hx.1,hx.2.1,by show I64 (Es k.j.tag ms x.id).1;simp only[I64];omega⟩
  intro l
  induction l with
  |nil=>intro _;simp[DY]
  |cons x l ih=>
   intro h
   obtain⟨a,b⟩:=ih fun y hy=>h y (List.mem_cons_of_mem _ hy)
   rw[DY]
   split
   ·refine⟨by simp;omega,fun y hy=> ?_⟩
    rcases List.mem_cons.1 hy with rfl|hy
    ·exact one x (h x List.mem_cons_self)
    ·exact b y hy
   ·refine⟨by simp,fun y hy=> ?_⟩
    rw[List.mem_singleton]at hy;subst hy
    exact one x (h x List.mem_cons_self)
 obtain⟨a,b⟩:=key k.now hk.now
 exact⟨Nat.le_trans a hk.len,b⟩
theorem OC {k:Wkr} (hk:WkOk k) (at_:Int) (ms:List Msg):(DF k at_ ms).1.length≤64∧(DF k at_ ms).2.1.length≤64000∧(∀m∈(DF k at_ ms).2.1,MIn m)∧∀x∈(DF k at_ ms).1,GZ x:=by
 obtain⟨b1,b2⟩:=Ry hk at_ ms
 have:=ZL (F:=AV k.g k.j at_) (l0:=(FT k at_ ms).1) (fun x hx=>by
  obtain⟨_,h2,_,h4,h5⟩:=Eb hk.job at_ (b2 x hx)
  exact⟨h5,h4,h2⟩) (l:=(FT k at_ ms).1) (fun x hx=>hx)
 exact⟨Nat.le_trans this.1 b1,Nat.le_trans this.2.1 (by omega),this.2.2⟩
theorem I4 {k:Wkr} (hk:WkOk k) (at_:Int) (ms:List Msg):AMF (EN k at_ ms):=by
 obtain⟨_,d2,d3,_⟩:=OC hk at_ ms
 have n64:=hk.n64
 refine⟨fun l hl=> ?_,by simp[EN,MS];omega⟩
 obtain⟨w,_,rfl⟩:=List.mem_map.1 hl
 refine⟨fun m hm=> ?_,by have:=AIQ (N:=k.N) (l:=(DF k at_ ms).2.1) w;omega⟩
 rw[O6,DI,List.mem_mergeSort]at hm
 exact(d3 m (List.mem_filter.1 hm).1).1
end
section
open Go AM
section
variable {a0 a1 a2 a3 a5 a6 a7:V} {fp fn:Fl} {k:Wkr} {at_:Int} {ms:List Msg}
abbrev JG (a0 a1 a2 a3 a5 a6 a7:V) (fp fn:Fl) (k:Wkr) (at_:Int) (ms:List Msg) (fb:Fl) (b:List Vtx) (fd:Fl) (d:List Vtx) (fs:Fl) (s:List Msg):List V:=[a0,a1,a2,a3,Dq fp fn k,a5,a6,a7,.ref 4 [] 68,.int .i64 at_,BZ .sh ms,JF 0 [] .nil [],Cb fb b,Cb fd d,.lst 103 fs (s.map Ac)]
abbrev AQp:V:= .clo 36 [.ref 8 [] 30,.ref 10 [] 36,.ref 12 [] 48]
abbrev AQq:V:= .clo 38 [.ref 8 [] 30,.ref 9 [] 3,.ref 13 [] 48,.ref 14 [] 36]
theorem ATl (hms:ms.length≤1000000) {fb:Fl} {b:List Vtx} (hb:b.length≤1000) (hf:fb= .own∨fb= .nil∧b=[]) (x:Vtx):
 Cl 36 [A7 x,.ref 8 [] 30,.ref 10 [] 36,.ref 12 [] 48] (JG a0 a1 a2 a3 a5 a6 a7 fp fn k at_ ms fb b .nil [] .nil []++[A7 x])=some (.int .i64 (BK k.j ms x).2,JG a0 a1 a2 a3 a5 a6 a7 fp fn k at_ ms .own (b++[(BK k.j ms x).1]) .nil [] .nil []++[A7 x]):=by
 have ca:=QA k.j.tag hms x.id (fl:= .sh) (.inl rfl)
 have ap:∀(h:List V) (y:Vtx),FU 70 (tyG Ld) false h (Cb fb b) (.lst 70 .own [A7 y])=some (Cb .own (b++[y])):=fun h y=>by
  have cl:AU [A7 y]=true:=rfl
  have ty:[A7 y].all (tyG Ld)=true:=rfl
  unfold Cb
  rw[List.map_append]
  rcases hf with rfl|⟨rfl,rfl⟩
  ·rw[Bj cl ty (by simp;omega)];rfl
  ·rw[List.map_nil,Bf cl ty (by simp)];rfl
 rw[VW]
 simp only[BK]
 generalize Es k.j.tag ms x.id=q at*
 refine Ae rfl ?_
 iterate 8 refine AZ rfl ?_
 refine AZ (show Cl 37 _ _=_ from ca) ?_
 iterate 3 refine AZ rfl ?_
 iterate 4 refine AZ rfl ?_
 iterate 3 refine AZ rfl ?_
 refine AZ (ap _ ⟨x.id,x.val,x.act,q.2.1,q.1⟩) ?_
 refine AZ rfl ?_
 rfl
theorem AMN (hms:ms.length≤1000000) {l:List Vtx} (hl:l.length≤64):∀(m i:Nat) (fb:Fl) (b:List Vtx),i+m=l.length→b.length≤i→(fb= .own∨fb= .nil∧b=[])→∃fb':Fl,(fb'= .own∨fb'= .nil)∧
 Gi AQp (Cb .sh l) (.int .i64 (l.length:Int)) (.int .i64 (i:Int)) 15 (JG a0 a1 a2 a3 a5 a6 a7 fp fn k at_ ms fb b .nil [] .nil [])=some (.int .i64 (DY (BK k.j ms) (l.drop i)).2,JG a0 a1 a2 a3 a5 a6 a7 fp fn k at_ ms fb' (b++(DY (BK k.j ms) (l.drop i)).1) .nil [] .nil []):=by
 intro m
 induction m with
 |zero=>
  intro i fb b hi hb hf
  have ls:AL .lss (.int .i64 (i:Int)) (.int .i64 (l.length:Int))=some (.bool false):=by rw[b_lss,decide_eq_false (by omega)]
  refine⟨fb,by rcases hf with rfl|⟨rfl,_⟩<;>simp,?_⟩
  rw[List.drop_eq_nil_of_le (by omega),BF]
  simp only[DY,List.append_nil]
  refine Ah ls ?_
  rfl
 |succ m ih=>
  intro i fb b hi hb hf
  have h:i<l.length:=by omega
  have ls:AL .lss (.int .i64 (i:Int)) (.int .i64 (l.length:Int))=some (.bool true):=by rw[b_lss,decide_eq_true (by omega)]
  have ix:D9 70 (Cb .sh l) (.int .i64 (i:Int))=some (.rop 70 (A7 l[i])):=by
   rw[DL,List.getElem?_map,List.getElem?_eq_getElem h];rfl
  have ad:AL .add (.int .i64 (i:Int)) (.int .i64 1)=some (.int .i64 ((i+1:Nat):Int)):=by rw[Bq,wrap_i64 (by omega) (by omega)];rfl
  have d1:=ATl (a0:=a0) (a1:=a1) (a2:=a2) (a3:=a3) (a5:=a5) (a6:=a6) (a7:=a7) (fp:=fp) (fn:=fn) (k:=k) (at_:=at_) hms (fb:=fb) (b:=b) (by omega) hf l[i]
  rw[List.drop_eq_getElem_cons h,DY]
  by_cases hq:(BK k.j ms l[i]).2=0
  ·obtain⟨fb',hf',nx⟩:=ih (i+1) .own (b++[(BK k.j ms l[i]).1]) (by omega) (by simp;omega) (.inl rfl)
   refine⟨fb',hf',?_⟩
   have ne:AL .neq (.int .i64 (BK k.j ms l[i]).2) (.int .i64 0)=some (.bool false):=by rw[b_neq];simp[hq]
   rw[if_pos hq]
   simp only[show b++(BK k.j ms l[i]).1::(DY (BK k.j ms) (l.drop (i+1))).1=b++[(BK k.j ms l[i]).1]++(DY (BK k.j ms) (l.drop (i+1))).1 by simp]
   rw[←nx,BF]
   clear ih nx hf
   generalize BK k.j ms l[i]=q at*
   generalize l[i]=x at*
   generalize (i+1:Nat)=i2 at*
   generalize (l.length:Int)=ll at*
   generalize l.map A7=LL at*
   refine Ah ls ?_
   refine Be ?_
   refine Ah ix ?_
   refine AZ rfl ?_
   refine AZ rfl ?_
   refine AZ rfl ?_
   refine DZ d1 ?_
   refine Ae rfl ?_
   refine Ah ne ?_
   refine BP ?_
   refine Ah ad ?_
   refine Ae rfl ?_
   rfl
  ·refine⟨.own,.inl rfl,?_⟩
   have ne:AL .neq (.int .i64 (BK k.j ms l[i]).2) (.int .i64 0)=some (.bool true):=by rw[b_neq];simp[hq]
   rw[if_neg hq,BF]
   clear ih hf
   generalize BK k.j ms l[i]=q at*
   generalize l[i]=x at*
   generalize (l.length:Int)=ll at*
   generalize l.map A7=LL at*
   refine Ah ls ?_
   refine Be ?_
   refine Ah ix ?_
   refine AZ rfl ?_
   refine AZ rfl ?_
   refine AZ rfl ?_
   refine DZ d1 ?_
   refine Ae rfl ?_
   refine Ah ne ?_
   refine Be ?_
   rfl
theorem AId (hms:ms.length≤1000000) {l:List Vtx} (hl:l.length≤64):∃fb':Fl,(fb'= .own∨fb'= .nil)∧
 Cl 35 [Cb .sh l,AQp] (JG a0 a1 a2 a3 a5 a6 a7 fp fn k at_ ms .nil [] .nil [] .nil [])=some (.int .i64 (DY (BK k.j ms) l).2,JG a0 a1 a2 a3 a5 a6 a7 fp fn k at_ ms fb' (DY (BK k.j ms) l).1 .nil [] .nil []):=by
 obtain⟨fb',hf',lp⟩:=AMN (a0:=a0) (a1:=a1) (a2:=a2) (a3:=a3) (a5:=a5) (a6:=a6) (a7:=a7) (fp:=fp) (fn:=fn) (k:=k) (at_:=at_) hms hl l.length 0 .nil [] (by omega) (Nat.le_refl 0) (.inr ⟨rfl,rfl⟩)
 have lL:EJ (Cb .sh l)=some (.int .i64 (l.length:Int)):=by show some _=_;rw[List.length_map]
 refine⟨fb',hf',?_⟩
 rw[List.drop_zero,List.nil_append]at lp
 rw[←lp,JS]
 exact AA lL _
theorem ATm (hk:WkOk k) {fb:Fl} {b:List Vtx} {fd fs:Fl} {d:List Vtx} {s:List Msg} (hd:d.length≤1000) (hs:s.length≤900000) (hf:fd= .own∨fd= .nil∧d=[]) (hf2:fs= .own∨fs= .nil∧s=[]) {x:Vtx} (hx:GZ x):
 Cl 38 [A7 x,.ref 8 [] 30,.ref 9 [] 3,.ref 13 [] 48,.ref 14 [] 36] (JG a0 a1 a2 a3 a5 a6 a7 fp fn k at_ ms fb b fd d fs s++[A7 x])=some (.int .i64 (AV k.g k.j at_ x).2.2,JG a0 a1 a2 a3 a5 a6 a7 fp fn k at_ ms fb b .own (d++[(AV k.g k.j at_ x).1]) (if fs= .nil∧(AV k.g k.j at_ x).2.1=[]then .nil else .own) (s++(AV k.g k.j at_ x).2.1)++[A7 x]):=by
 obtain⟨st,_,_,_,hln⟩:=Eb hk.job at_ hx
 have ap:∀(h:List V) (y:Vtx),FU 70 (tyG Ld) false h (Cb fd d) (.lst 70 .own [A7 y])=some (Cb .own (d++[y])):=fun h y=>by
  have cl:AU [A7 y]=true:=rfl
  have ty:[A7 y].all (tyG Ld)=true:=rfl
  unfold Cb
  rw[List.map_append]
  rcases hf with rfl|⟨rfl,rfl⟩
  ·rw[Bj cl ty (by simp;omega)];rfl
  ·rw[List.map_nil,Bf cl ty (by simp)];rfl
 have ap2:∀(h:List V) (u:List Msg),u.length≤1000→FU 103 (tyG 102) false h (.lst 103 fs (s.map Ac)) (BZ .sh u)=some (.lst 103 (if fs= .nil∧u=[]then .nil else .own) ((s++u).map Ac)):=fun h u hu=>by
  have cl:AU (u.map Ac)=true:=F6 u
  have ty:(u.map Ac).all (tyG 102)=true:=all_map (fun _=>rfl) u
  rw[List.map_append]
  rcases hf2 with rfl|⟨rfl,rfl⟩
  ·rw[BZ,Bj cl ty (by simp;omega)]
   simp only[reduceCtorEq,false_and,if_false];rfl
  ·cases u with
   |nil=>rfl
   |cons y u=>
    rw[BZ,List.map_nil,List.map_cons,Bf (by simpa using cl) (by simpa using ty) (by simp at hu⊢;omega)]
    simp;rfl
 rw[VY]
 generalize AV k.g k.j at_ x=q at*
 refine Ae rfl ?_
 iterate 10 refine AZ rfl ?_
 refine Ae rfl ?_
 refine AZ (show Cl 39 _ _=_ from st) ?_
 iterate 4 refine AZ rfl ?_
 refine Ae rfl ?_
 refine Ae rfl ?_
 refine AZ rfl ?_
 refine Ae rfl ?_
 iterate 2 refine AZ rfl ?_
 refine Ae (by rcases hf with rfl|⟨rfl,rfl⟩<;>rfl) ?_
 refine AZ (ap _ q.1) ?_
 refine Ae rfl ?_
 refine AZ rfl ?_
 refine AZ (ap2 _ q.2.1 hln) ?_
 refine AZ rfl ?_
 refine AZ (x:=JG a0 a1 a2 a3 a5 a6 a7 fp fn k at_ ms fb b .own (d++[q.1]) (if fs= .nil∧q.2.1=[]then .nil else .own) (s++q.2.1)++[A7 x]++[A7 x]++[A7 q.1]) (by split<;>rfl) ?_
 rfl
theorem AMO (hk:WkOk k) {fb:Fl} {b:List Vtx} {l:List Vtx} (hl:l.length≤64) (hx:∀x∈l,GZ x):∀(m i:Nat) (fd fs:Fl) (d:List Vtx) (s:List Msg),i+m=l.length→d.length≤i→s.length≤1000*i→(fd= .own∨fd= .nil∧d=[])→(fs= .own∨fs= .nil∧s=[])→∃fd' fs':Fl,(fd'= .own∨fd'= .nil)∧(fs'= .own∨fs'= .nil)∧
 Gi AQq (Cb .sh l) (.int .i64 (l.length:Int)) (.int .i64 (i:Int)) 15 (JG a0 a1 a2 a3 a5 a6 a7 fp fn k at_ ms fb b fd d fs s)=some (.int .i64 (Bg (AV k.g k.j at_) (l.drop i)).2.2,JG a0 a1 a2 a3 a5 a6 a7 fp fn k at_ ms fb b fd' (d++(Bg (AV k.g k.j at_) (l.drop i)).1) fs' (s++(Bg (AV k.g k.j at_) (l.drop i)).2.1)):=by
 intro m
 induction m with
 |zero=>
  intro i fd fs d s hi hd hs hf hf2
  have ls:AL .lss (.int .i64 (i:Int)) (.int .i64 (l.length:Int))=some (.bool false):=by rw[b_lss,decide_eq_false (by omega)]
  refine⟨fd,fs,by rcases hf with rfl|⟨rfl,_⟩<;>simp,by rcases hf2 with rfl|⟨rfl,_⟩<;>simp,?_⟩
  rw[List.drop_eq_nil_of_le (by omega),BF]
  simp only[Bg,List.append_nil]
  refine Ah ls ?_
  rfl
 |succ m ih=>
  intro i fd fs d s hi hd hs hf hf2
  have h:i<l.length:=by omega
  have ls:AL .lss (.int .i64 (i:Int)) (.int .i64 (l.length:Int))=some (.bool true):=by rw[b_lss,decide_eq_true (by omega)]
  have ix:D9 70 (Cb .sh l) (.int .i64 (i:Int))=some (.rop 70 (A7 l[i])):=by
   rw[DL,List.getElem?_map,List.getElem?_eq_getElem h];rfl
  have ad:AL .add (.int .i64 (i:Int)) (.int .i64 1)=some (.int .i64 ((i+1:Nat):Int)):=by rw[Bq,wrap_i64 (by omega) (by omega)];rfl
  have d2:=ATm (a0:=a0) (a1:=a1) (a2:=a2) (a3:=a3) (a5:=a5) (a6:=a6) (a7:=a7) (fp:=fp) (fn:=fn) (at_:=at_) (ms:=ms) hk (fb:=fb) (b:=b) (fd:=fd) (fs:=fs) (d:=d) (s:=s) (by omega) (by omega) hf hf2 (hx _ (List.getElem_mem h))
  obtain⟨_,_,_,_,hln⟩:=Eb hk.job at_ (hx _ (List.getElem_mem h))
  rw[List.drop_eq_getElem_cons h,Bg]
  by_cases hq:(AV k.g k.j at_ l[i]).2.2=0
  ·obtain⟨fd',fs',hf',hf2',nx⟩:=ih (i+1) .own (if fs= .nil∧(AV k.g k.j at_ l[i]).2.1=[]then .nil else .own) (d++[(AV k.g k.j at_ l[i]).1]) (s++(AV k.g k.j at_ l[i]).2.1) (by omega) (by simp;omega) (by simp;omega) (.inl rfl) (by
    by_cases hc:fs= .nil∧(AV k.g k.j at_ l[i]).2.1=[]
    ·rw[if_pos hc]
     refine .inr ⟨rfl,?_⟩
     rcases hf2 with rfl|⟨_,rfl⟩
     ·cases hc.1
     ·rw[hc.2];rfl
    ·rw[if_neg hc];exact .inl rfl)
   refine⟨fd',fs',hf',hf2',?_⟩
   have ne:AL .neq (.int .i64 (AV k.g k.j at_ l[i]).2.2) (.int .i64 0)=some (.bool false):=by rw[b_neq];simp[hq]
   rw[if_pos hq]
   simp only[show d++(AV k.g k.j at_ l[i]).1::(Bg (AV k.g k.j at_) (l.drop (i+1))).1=d++[(AV k.g k.j at_ l[i]).1]++(Bg (AV k.g k.j at_) (l.drop (i+1))).1 by simp,
    show s++((AV k.g k.j at_ l[i]).2.1++(Bg (AV k.g k.j at_) (l.drop (i+1))).2.1)=s++(AV k.g k.j at_ l[i]).2.1++(Bg (AV k.g k.j at_) (l.drop (i+1))).2.1 by simp]
   rw[←nx,BF]
   clear ih nx hf hf2 hln hx
   generalize (if fs= .nil∧(AV k.g k.j at_ l[i]).2.1=[]then Fl.nil else Fl.own)=fz at*
   generalize AV k.g k.j at_ l[i]=q at*
   generalize l[i]=x at*
   generalize (i+1:Nat)=i2 at*
   generalize (l.length:Int)=ll at*
   generalize l.map A7=LL at*
   refine Ah ls ?_
   refine Be ?_
   refine Ah ix ?_
   refine AZ rfl ?_
   refine AZ rfl ?_
   refine AZ rfl ?_
   refine DZ d2 ?_
   refine Ae rfl ?_
   refine Ah ne ?_
   refine BP ?_
   refine Ah ad ?_
   refine Ae rfl ?_
   rfl
  ·refine⟨.own,(if fs= .nil∧(AV k.g k.j at_ l[i]).2.1=[]then .nil else .own),.inl rfl,by split<;>simp,?_⟩
   have ne:AL .neq (.int .i64 (AV k.g k.j at_ l[i]).2.2) (.int .i64 0)=some (.bool true):=by rw[b_neq];simp[hq]
   rw[if_neg hq,BF]
   clear ih hf hf2 hln hx
   generalize (if fs= .nil∧(AV k.g k.j at_ l[i]).2.1=[]then Fl.nil else Fl.own)=fz at*
   generalize AV k.g k.j at_ l[i]=q at*
   generalize l[i]=x at*
   generalize (l.length:Int)=ll at*
   generalize l.map A7=LL at*
   refine Ah ls ?_
   refine Be ?_
   refine Ah ix ?_
   refine AZ rfl ?_
   refine AZ rfl ?_
   refine AZ rfl ?_
   refine DZ d2 ?_
   refine Ae rfl ?_
   refine Ah ne ?_
   refine Be ?_
   rfl
theorem AIe (hk:WkOk k) {fb:Fl} {b:List Vtx} {l:List Vtx} (hl:l.length≤64) (hx:∀x∈l,GZ x):∃fd' fs':Fl,(fd'= .own∨fd'= .nil)∧(fs'= .own∨fs'= .nil)∧
 Cl 35 [Cb .sh l,AQq] (JG a0 a1 a2 a3 a5 a6 a7 fp fn k at_ ms fb b .nil [] .nil [])=some (.int .i64 (Bg (AV k.g k.j at_) l).2.2,JG a0 a1 a2 a3 a5 a6 a7 fp fn k at_ ms fb b fd' (Bg (AV k.g k.j at_) l).1 fs' (Bg (AV k.g k.j at_) l).2.1):=by
 obtain⟨fd',fs',hf',hf2',lp⟩:=AMO (a0:=a0) (a1:=a1) (a2:=a2) (a3:=a3) (a5:=a5) (a6:=a6) (a7:=a7) (fp:=fp) (fn:=fn) (at_:=at_) (ms:=ms) hk (fb:=fb) (b:=b) hl hx l.length 0 .nil .nil [] [] (by omega) (Nat.le_refl 0) (by simp) (.inr ⟨rfl,rfl⟩) (.inr ⟨rfl,rfl⟩)
 have lL:EJ (Cb .sh l)=some (.int .i64 (l.length:Int)):=by show some _=_;rw[List.length_map]
 refine⟨fd',fs',hf',hf2',?_⟩
 rw[List.drop_zero,List.nil_append,List.nil_append]at lp
 rw[←lp,JS]
 exact AA lL _
theorem AMP (hk:WkOk k) (hfn:fn= .own∨fn= .nil∨fn= .sh) {fb fd fs:Fl} (hfd:fd= .own∨fd= .nil) {b:List Vtx} (cc:V) (co:List UInt8) (ha: -1000000≤at_∧at_≤1000000):∀(m i:Nat) (f:Fl) (bs:List (List UInt8)),i+m=(EN k at_ ms).length→bs.length≤i→(f= .own∨f= .nil∧bs=[])→
 LW (.ref 8 [] 30) (.ref 9 [] 3) (.ref 11 [] 41) (.ref 13 [] 48) (.ref 16 [] 41) (vBs .sh (EN k at_ ms)) (.int .i64 ((EN k at_ ms).length:Int)) (.int .i64 (i:Int)) 8 (JG a0 a1 a2 a3 a5 a6 a7 fp fn k at_ ms fb b fd (DF k at_ ms).1 fs (DF k at_ ms).2.1++[cc,JF 0 co f bs])=
  some (JF 0 co .sh (bs++((EN k at_ ms).drop i).map fun l=>(Ci l).1),[a0,a1,a2,a3,Dq fn.wk fd.wk (ZM k at_ ms),a5,a6,a7]):=by
 have hO:=I4 hk at_ ms
 generalize hOO:EN k at_ ms=O at*
 intro m
 induction m with
 |zero=>
  intro i f bs hi hb hf
  have ls:AL .lss (.int .i64 (i:Int)) (.int .i64 (O.length:Int))=some (.bool false):=by rw[b_lss,decide_eq_false (by omega)]
  have ad:AL .add (.int .i64 at_) (.int .i64 1)=some (.int .i64 (at_+1)):=by rw[Bq,wrap_i64 (by omega) (by omega)]
  have pl:Iu (bs.map V.str)=true:=DC (fun _=>rfl) bs
  have pk:(vG .sh k.g).pl=true:=by simp only[go_sem]
  rw[List.drop_eq_nil_of_le (by omega),List.map_nil,List.append_nil,Ep]
  unfold ZM
  generalize (DF k at_ ms).1=dn at*
  generalize (DF k at_ ms).2.1=sn at*
  clear hOO hO hk
  rcases hfn with rfl|rfl|rfl
  all_goals rcases hfd with rfl|rfl
  all_goals refine Ah ls ?_
  all_goals refine BP ?_
  all_goals refine AZ rfl ?_
  all_goals refine Ae rfl ?_
  all_goals refine AZ rfl ?_
  all_goals refine Ae rfl ?_
  all_goals refine AZ rfl ?_
  all_goals refine Ae rfl ?_
  all_goals iterate 5 refine AZ rfl ?_
  all_goals refine Ae rfl ?_
  all_goals refine AZ rfl ?_
  all_goals refine Ae rfl ?_
  all_goals refine AZ rfl ?_
  all_goals refine AZ ad ?_
  all_goals iterate 2 refine AZ rfl ?_
  all_goals refine Ae rfl ?_
  all_goals iterate 3 refine AZ rfl ?_
  all_goals refine Ae rfl ?_
  all_goals iterate 3 refine AZ rfl ?_
  all_goals refine Ae rfl ?_
  all_goals iterate 8 refine AZ rfl ?_
  all_goals rcases hf with rfl|⟨rfl,rfl⟩
  all_goals rfl
 |succ m ih=>
  intro i f bs hi hb hf
  have h:i<O.length:=by omega
  have ls:AL .lss (.int .i64 (i:Int)) (.int .i64 (O.length:Int))=some (.bool true):=by rw[b_lss,decide_eq_true (by omega)]
  have ho:=hO.2
  have ix:D9 36 (vBs .sh O) (.int .i64 (i:Int))=some (.rop 36 (mB O[i])):=by
   rw[DL,List.getElem?_map,List.getElem?_eq_getElem h];rfl
  have ad:AL .add (.int .i64 (i:Int)) (.int .i64 1)=some (.int .i64 ((i+1:Nat):Int)):=by rw[Bq,wrap_i64 (by omega) (by omega)];rfl
  have hm:=hO.1 _ (List.getElem_mem h)
  have pt:=QB (f:= .sh) hm.1 hm.2
  have ap:∀(h:List V),FU 9 AM.tyS false h (.lst 9 f (bs.map V.str)) (.lst 9 .own [.str (Ci O[i]).1])=some (.lst 9 .own ((bs++[(Ci O[i]).1]).map V.str)):=fun h=>by
   have cl:AU [V.str (Ci O[i]).1]=true:=rfl
   have ty:[V.str (Ci O[i]).1].all AM.tyS=true:=rfl
   rw[List.map_append]
   rcases hf with rfl|⟨rfl,rfl⟩
   ·rw[Bj cl ty (by simp;omega)];rfl
   ·rw[List.map_nil,Bf cl ty (by simp)];rfl
  have nx:=ih (i+1) .own (bs++[(Ci O[i]).1]) (by omega) (by simp;omega) (.inl rfl)
  rw[List.drop_eq_getElem_cons h,List.map_cons,show bs++(Ci O[i]).1::((O.drop (i+1)).map fun l=>(Ci l).1)=bs++[(Ci O[i]).1]++(O.drop (i+1)).map (fun l=>(Ci l).1)by simp,←nx,Ep]
  clear ih nx hf hm hO hOO
  generalize (DF k at_ ms).1=dn at*
  generalize (DF k at_ ms).2.1=sn at*
  generalize Ci O[i]=q at*
  generalize O[i]=o at*
  generalize (i+1:Nat)=i2 at*
  generalize (O.length:Int)=ll at*
  generalize O.map mB=OL at*
  refine Ah ls ?_
  refine Be ?_
  refine Ah ix ?_
  refine AZ (x:=mB o) rfl ?_
  refine AZ (show Cl 43 _ _=_ from pt) ?_
  iterate 5 refine AZ rfl ?_
  refine AZ (ap _) ?_
  iterate 2 refine AZ rfl ?_
  exact AA ad _
theorem AIf (fl:Fl) (hfl:fl= .sh∨fl= .own) (hb:at_≠k.step∨k.j.steps≤at_):Cl 11 [.ref 4 [] 68,.int .i64 at_,BZ .sh ms] [a0,a1,a2,a3,Dq fp fn k,a5,a6,a7]=some (JF 131 [] .sh [],[a0,a1,a2,a3,Dq fp fn k,a5,a6,a7]):=by
 rw[JR]
 iterate 3 refine Ae rfl ?_
 refine FV ?_
 have fin:∀X:Rv,X=some (JF 131 [] .sh [],[a0,a1,a2,a3,Dq fp fn k,a5,a6,a7])→X=some (JF 131 [] .sh [],[a0,a1,a2,a3,Dq fp fn k,a5,a6,a7]):=fun _ h=>h
 iterate 5 refine AZ rfl ?_
 by_cases h1:at_=k.step
 ·have ne:AL .neq (.int .i64 at_) (.int .i64 k.step)=some (.bool false):=by rw[b_neq];simp[h1]
  have ge:AL .geq (.int .i64 at_) (.int .i64 k.j.steps)=some (.bool true):=by rw[b_geq,decide_eq_true (by rcases hb with h|h;exact absurd h1 h;exact h)]
  refine AZ ne ?_
  refine BP ?_
  iterate 6 refine AZ rfl ?_
  refine AZ ge ?_
  refine Be ?_
  iterate 3 refine AZ rfl ?_
  rfl
 ·have ne:AL .neq (.int .i64 at_) (.int .i64 k.step)=some (.bool true):=by rw[b_neq];simp[h1]
  refine AZ ne ?_
  refine Be ?_
  refine Be ?_
  iterate 3 refine AZ rfl ?_
  rfl
theorem AMQ (hk:WkOk k) (hfn:fn= .own∨fn= .nil∨fn= .sh) (hms:ms.length≤1000000) (h1:at_=k.step) (h2:at_<k.j.steps) (h3:0≤at_):∃fd:Fl,(fd= .sh∨fd= .nil)∧
 Cl 11 [.ref 4 [] 68,.int .i64 at_,BZ .sh ms] [a0,a1,a2,a3,Dq fp fn k,a5,a6,a7]=some (if JI k at_ ms=0 then(JF 0 (doC k at_ ms) .sh ((EN k at_ ms).map fun l=>(Ci l).1),[a0,a1,a2,a3,Dq fn.wk fd (ZM k at_ ms),a5,a6,a7])else(JF (JI k at_ ms) [] .sh [],[a0,a1,a2,a3,Dq fp fn k,a5,a6,a7])):=by
 have hst:k.j.steps≤64:=by have:=hk.job;simp only[Dz,decide_eq_true_eq]at this;exact this.2.2.2.2.2
 obtain⟨b1,b2⟩:=Ry hk at_ ms
 obtain⟨d1,d2,d3,d4⟩:=OC hk at_ ms
 have hO:=I4 hk at_ ms
 obtain⟨fb,hfb,e1⟩:=AId (a0:=a0) (a1:=a1) (a2:=a2) (a3:=a3) (a5:=a5) (a6:=a6) (a7:=a7) (fp:=fp) (fn:=fn) (k:=k) (at_:=at_) hms hk.len
 have hb:DY (BK k.j ms) k.now=FT k at_ ms:=rfl
 rw[hb]at e1
 obtain⟨fd,fs,hfd,hfs,e2⟩:=AIe (a0:=a0) (a1:=a1) (a2:=a2) (a3:=a3) (a5:=a5) (a6:=a6) (a7:=a7) (fp:=fp) (fn:=fn) (at_:=at_) (ms:=ms) hk (fb:=fb) (b:=(FT k at_ ms).1) b1 b2
 have hd:Bg (AV k.g k.j at_) (FT k at_ ms).1=DF k at_ ms:=rfl
 rw[hd]at e2
 have sp:=MV (N:=k.N) (l:=(DF k at_ ms).2.1) hk.n1 hk.n64 (by omega) d3
 rw[show MS k.N (DF k at_ ms).2.1=EN k at_ ms from rfl]at sp
 have mk:=QE (w:=(k.w:Int)) (st:=at_) ⟨by have:=hk.w;have:=hk.n64;omega,by have:=hk.w;have:=hk.n64;omega⟩ ⟨by omega,by omega⟩ d4 (by omega) hO
 have hcm:Je (QD (TT (k.w:Int) at_ (DF k at_ ms).1 (EN k at_ ms))).1:=by
  unfold QD
  split
  ·exact XK ⟨by have:=hk.w;have:=hk.n64;omega,by have:=hk.w;have:=hk.n64;omega⟩ ⟨by omega,by omega⟩ _ hO
  ·exact ADO
 have cp:=QC hcm
 have lp:=AMP (a0:=a0) (a1:=a1) (a2:=a2) (a3:=a3) (a5:=a5) (a6:=a6) (a7:=a7) (fp:=fp) (at_:=at_) (ms:=ms) hk hfn (fb:=fb) (fd:=fd) (fs:=fs) hfd (b:=(FT k at_ ms).1) (vC .sh (QD (TT (k.w:Int) at_ (DF k at_ ms).1 (EN k at_ ms))).1) (doC k at_ ms) (by omega) (EN k at_ ms).length 0 .nil [] (by omega) (Nat.le_refl 0) (.inr ⟨rfl,rfl⟩)
 rw[List.drop_zero,List.nil_append]at lp
 refine⟨fd.wk,by rcases hfd with rfl|rfl<;>simp[Fl.wk],?_⟩
 have ne:AL .neq (.int .i64 at_) (.int .i64 k.step)=some (.bool false):=by rw[b_neq];simp[h1]
 have ge:AL .geq (.int .i64 at_) (.int .i64 k.j.steps)=some (.bool false):=by rw[b_geq,decide_eq_false (by omega)]
 have lO:EJ (.lst 36 .sh ((EN k at_ ms).map (BZ .sh)))=some (.int .i64 ((EN k at_ ms).length:Int)):=by show some _=_;rw[List.length_map]
 have n0:∀z:Int,z≠0→AL .neq (.int .i64 z) (.int .i64 0)=some (.bool true):=fun z hz=>by rw[b_neq];simp[hz]
 have e0:∀z:Int,z≠0→AL .eql (.int .i64 z) (.int .i64 0)=some (.bool false):=fun z hz=>by rw[b_eql,decide_eq_false hz]
 have e1':Cl 35 (AP [(Cb fn k.now).weak,AQp]) (JG a0 a1 a2 a3 a5 a6 a7 fp fn k at_ ms .nil [] .nil [] .nil [])=some (.int .i64 (FT k at_ ms).2,JG a0 a1 a2 a3 a5 a6 a7 fp fn k at_ ms fb (FT k at_ ms).1 .nil [] .nil []):=by rcases hfn with rfl|rfl|rfl<;>exact e1
 have e2':Cl 35 (AP [(Cb fb (FT k at_ ms).1).weak,AQq]) (JG a0 a1 a2 a3 a5 a6 a7 fp fn k at_ ms fb (FT k at_ ms).1 .nil [] .nil [])=some (.int .i64 (DF k at_ ms).2.2,JG a0 a1 a2 a3 a5 a6 a7 fp fn k at_ ms fb (FT k at_ ms).1 fd (DF k at_ ms).1 fs (DF k at_ ms).2.1):=by rcases hfb with rfl|rfl<;>exact e2
 have sp':∀H,Cl 40 (AB H [.int .i64 (k.N:Int),(V.lst 103 fs ((DF k at_ ms).2.1.map Ac)).weak]) []=some (.tup [.lst 36 .sh ((EN k at_ ms).map (BZ .sh)),.int .i64 0],[]):=fun H=>by rcases hfs with rfl|rfl<;>exact sp
 have mk':∀H,Cl 41 (AB H [.int .i64 (k.w:Int),.int .i64 at_,(Cb fd (DF k at_ ms).1).weak,(V.lst 36 .sh ((EN k at_ ms).map (BZ .sh))).weak]) []=some (vGC (QD (TT (k.w:Int) at_ (DF k at_ ms).1 (EN k at_ ms))),[]):=fun H=>by rcases hfd with rfl|rfl<;>exact mk
 have lw:LQ true [.int .i64 (k.w:Int),.int .i64 at_,(Cb fd (DF k at_ ms).1).weak,(V.lst 36 .sh ((EN k at_ ms).map (BZ .sh))).weak]=true:=by rcases hfd with rfl|rfl<;>rfl
 rw[JR]
 iterate 3 refine Ae rfl ?_
 refine FV ?_
 iterate 5 refine AZ rfl ?_
 refine AZ ne ?_
 refine BP ?_
 iterate 6 refine AZ rfl ?_
 refine AZ ge ?_
 refine BP ?_
 iterate 3 refine AZ rfl ?_
 refine AZ rfl ?_
 refine AZ rfl ?_
 refine AZ e1' ?_
 by_cases q1:(FT k at_ ms).2=0
 ·have q1':AL .eql (.int .i64 (FT k at_ ms).2) (.int .i64 0)=some (.bool true):=by rw[b_eql,decide_eq_true q1]
  refine AZ q1' ?_
  refine FV ?_
  refine Be ?_
  refine AZ rfl ?_
  refine AZ rfl ?_
  refine AZ e2' ?_
  have qe:JI k at_ ms=(DF k at_ ms).2.2:=by unfold JI;rw[if_pos q1]
  by_cases q2:(DF k at_ ms).2.2=0
  ·have q2':AL .neq (.int .i64 (DF k at_ ms).2.2) (.int .i64 0)=some (.bool false):=by rw[b_neq];simp[q2]
   refine AZ q2' ?_
   refine BP ?_
   rw[if_pos (by rw[qe];exact q2),←lp]
   clear lp e1 e2 hO b1 b2 d3 d4 hb hd
   unfold doC at*
   generalize QD (TT (k.w:Int) at_ (DF k at_ ms).1 (EN k at_ ms))=cq at*
   generalize MW cq.1=pq at*
   iterate 5 refine AZ rfl ?_
   refine AZ (sp' _) ?_
   iterate 8 refine AZ rfl ?_
   refine Ae lw ?_
   refine AZ (mk' _) ?_
   have pc:(vC .sh cq.1).pl=true:=by simp only[go_sem]
   have stc:∀(L:List V) (z:V),DJ (tyG tCm) 94 (L++[z]) (.ref L.length [] 94) (vC .sh cq.1).weak=some (L++[vC .sh cq.1]):=fun L z=>by rw[(V.PF _ pc).weak];exact Gq rfl ((V.PF _ pc).under _) _
   have cp':∀L,Cl 42 (AB L [(vC .sh cq.1).weak]) []=some (.tup [.str pq.1,.int .i64 (pq.2:Int)],[]):=fun L=>by rw[(V.PF _ pc).weak,AB,AB,(V.PF _ pc).reify];exact cp
   iterate 2 refine AZ rfl ?_
   refine AZ (stc _ _) ?_
   refine AZ rfl ?_
   refine AZ (cp' _) ?_
   iterate 4 refine AZ rfl ?_
   refine AZ lO ?_
   rfl
  ·have q2':AL .neq (.int .i64 (DF k at_ ms).2.2) (.int .i64 0)=some (.bool true):=n0 _ q2
   refine AZ q2' ?_
   refine Be ?_
   rw[if_neg (by rw[qe];exact q2),qe]
   iterate 3 refine AZ rfl ?_
   rfl
 ·have qe:JI k at_ ms=(FT k at_ ms).2:=by unfold JI;rw[if_neg q1]
  refine AZ (e0 _ q1) ?_
  refine FV ?_
  refine BP ?_
  refine AZ (n0 _ q1) ?_
  refine Be ?_
  rw[if_neg (by rw[qe];exact q1),qe]
  iterate 3 refine AZ rfl ?_
  rfl
end
end
end Go.Proofs.YtphoocnlpnnkdaaGreatDoor
