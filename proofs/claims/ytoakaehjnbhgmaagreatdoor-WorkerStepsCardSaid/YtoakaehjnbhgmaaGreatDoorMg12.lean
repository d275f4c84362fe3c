/-
  Part of the proof of a statement about the given program: an abstract machine over its code, the simulation, its functions' equations, what they compute.
-/
import Derived.Test.YtoakaehjnbhgmaaGreatDoorMg10
import Derived.Test.YtoakaehjnbhgmaaGreatDoorMg11
import Derived.Test.YtoakaehjnbhgmaaGreatDoorMg5
import Derived.Test.YtoakaehjnbhgmaaGreatDoorMg9
set_option linter.unusedVariables false
set_option linter.unusedSimpArgs false
set_option linter.unusedSectionVars false
set_option maxRecDepth 100000
noncomputable section
namespace Go.Proofs.YtoakaehjnbhgmaaGreatDoor
section
open Go AM
instance:Inhabited Msg:=⟨⟨0,0,0⟩⟩
def rowM (d:Array Msg):V:= .row 152 (d.toList.map Aa)
def winM (id n:Nat):V:= .win id [] 0 n 152
abbrev cm:V:= .clo 153 []
def ABx (a b:Int):Int:=if a<b then -1 else if b<a then 1 else 0
def or3 (a b c:Int):Int:=if a≠0 then a else if b≠0 then b else c
def APS (x y:Msg):Int:=or3 (ABx x.to y.to) (ABx x.fr y.fr) (ABx x.val y.val)
def ltM (x y:Msg):Bool:=decide (APS x y<0)
theorem AMZ {B:Type} {k:IntKind} {a b:Int} (h:b<a) (K:V→Option B):(AL .gtr (.int k a) (.int k b)).bind K=K (.bool true):=by
 rw[b_gtr,Option.bind_some,decide_eq_true h]
theorem AMa {B:Type} {k:IntKind} {a b:Int} (h:¬b<a) (K:V→Option B):(AL .gtr (.int k a) (.int k b)).bind K=K (.bool false):=by
 rw[b_gtr,Option.bind_some,decide_eq_false h]
theorem APT {B:Type} (b:Bool) (K:V→Option B):(un .not (.bool b)).bind K=K (.bool (!b)):=rfl
theorem ABy (m:Msg):Bj P 152 (Aa m)=true:=by simp[Bj,ABi,Aa]
theorem APU (n:Nat) (m:Msg):(Aa m).under n=true:=rfl
theorem fM {B:Type} {id:Nat} (j:Nat) {u:TypeId} {p:List Nat} (hj:[3,3,2][j]?=some u) (hu:P.cellsOf u≠0) (K:V→Option B):(BH P 152 j (.ref id p 152)).bind K=K (.ref id (p++[j]) u):=
 AA (Qc (P:=P) ABi hj hu id p) K
theorem AMb {B:Type} {h:List V} {id:Nat} {m:Msg} {x:Int} (j:Nat) (u:TypeId) (hj:[3,3,2][j]?=some u) (hu:P.cellsOf u≠0) (hh:h[id]?=some (Aa m)) (hx:[V.int .i64 m.fr,V.int .i64 m.to,V.int .i64 m.val][j]?=some (.int .i64 x)) (K:V→Option B):
 (BH P 152 j (.ref id [] 152)).bind (fun t=>(AV h u t).bind K)=K (.int .i64 x):=by
 refine(fM j hj hu _).trans ?_
 exact AA (Cf (L6 hh hx)) K
theorem ABz {B:Type} {h:List V} {id:Nat} {m:Msg} (hh:h[id]?=some (Aa m)) (K:V→Option B):(BH P 152 0 (.ref id [] 152)).bind (fun t=>(AV h 3 t).bind K)=K (.int .i64 m.fr):=AMb 0 _ rfl (by rw[ABh];decide) hh rfl K
theorem AB0 {B:Type} {h:List V} {id:Nat} {m:Msg} (hh:h[id]?=some (Aa m)) (K:V→Option B):(BH P 152 1 (.ref id [] 152)).bind (fun t=>(AV h 3 t).bind K)=K (.int .i64 m.to):=AMb 1 _ rfl (by rw[ABh];decide) hh rfl K
theorem ZJ {B:Type} {h:List V} {id:Nat} {m:Msg} (hh:h[id]?=some (Aa m)) (K:V→Option B):(BH P 152 2 (.ref id [] 152)).bind (fun t=>(AV h 2 t).bind K)=K (.int .i64 m.val):=AMb 2 _ rfl (by rw[AOQ];decide) hh rfl K
theorem ZK {B:Type} (b:Bool) (x y:Option B):V.ite (.bool b) x y=if b=true then x else y:=by cases b<;>rfl
theorem cmp_neg (x y:Msg):ltM x y=true↔(x.to<y.to∨(x.to=y.to∧(x.fr<y.fr∨(x.fr=y.fr∧x.val<y.val)))):=by
 simp only[ltM,APS,or3,ABx,decide_eq_true_eq]
 rcases Int.lt_trichotomy x.to y.to with h|h|h
 ·simp[h]
 ·rcases Int.lt_trichotomy x.fr y.fr with g|g|g
  ·simp[h,g]
  ·rcases Int.lt_trichotomy x.val y.val with k|k|k
   ·simp[h,g,k]
   ·simp[h,g,k]
   ·have n:¬x.val<y.val:=by omega
    simp[h,g,k,n]
  ·have n:¬x.fr<y.fr:=by omega
   have n2:¬x.fr=y.fr:=by omega
   simp[h,g,n,n2]
 ·have n:¬x.to<y.to:=by omega
  have n2:¬x.to=y.to:=by omega
  simp[h,n,n2]
def Bl (f:Fl) (l:List Msg):V:= .lst 152 f (l.map Aa)
def CQ (l:List Msg):List Msg:=l.mergeSort (fun x y=> !ltM y x)
theorem G5:∀l:List Msg,AU (l.map Aa)=true
 |[]=>rfl
 |x::l=>by simp only[List.map_cons,AU,G5 l];rfl
theorem AB1:∀l:List Msg,AQ (l.map Aa)=l.map Aa
 |[]=>rfl
 |x::l=>by simp only[List.map_cons,AQ,AB1 l];rfl
theorem AFM (l:List Msg):GL P 152 (l.map Aa)=true:=by simp[GL,ABy]
def Oa (m:Msg):Int×Int×Int:=(m.fr,m.to,m.val)
theorem ZL (x y:Msg):decide (Rz 2 (Oa x) (Oa y)<0)=ltM x y:=by
 have hr:∀z,Oj 2 z=true:=fun _=>rfl
 rw[Bool.eq_iff_iff,decide_eq_true_eq,cmp_neg]
 unfold Rz cl3
 rw[if_pos (hr _),if_pos (hr _),AFK (by decide)]
 simp only[Oa]
theorem AI5 (x y:Int×Int×Int) (h1:decide (Rz 2 x y<0)=false) (h2:decide (Rz 2 y x<0)=false):x=y:=by
 have hr:∀z,Oj 2 z=true:=fun _=>rfl
 rw[decide_eq_false_iff_not]at h1 h2
 unfold Rz cl3 at h1 h2
 rw[if_pos (hr _),if_pos (hr _),AFK (by decide)]at h1 h2
 obtain⟨a,b,c⟩:=x
 obtain⟨a',b',c'⟩:=y
 simp only at h1 h2
 rw[Prod.mk.injEq,Prod.mk.injEq]
 omega
theorem AMc (l:List Msg):EZ 2 (l.map Oa)=(CQ l).map Oa:=by
 have h:=Xo 2 (l.map Oa)
 have e:=Sort.sorted_unique_holds (OZ 2) AI5 _ _ h.1 h.2
 simp only[List.toList_toArray]at e
 rw[e,CQ]
 refine(List.map_mergeSort fun a _ b _=> ?_).symm
 rw[←ZL]
theorem AFN:∀l:List Msg,(l.map Aa).all (i3t 151)=true
 |[]=>rfl
 |x::l=>by rw[List.map_cons,List.all_cons,AFN l];rfl
theorem AKp:∀l:List Msg,(l.map Aa).all (fun x=>Oj 2 (t3 x))=true
 |[]=>rfl
 |x::l=>by rw[List.map_cons,List.all_cons,AKp l];rfl
theorem APV (l:List Msg):(l.map Aa).map t3=l.map Oa:=by rw[List.map_map];rfl
theorem APW (l:List Msg):(l.map Oa).map (Yr 151)=l.map Aa:=by rw[List.map_map];rfl
theorem sort_aps {h:List V} {id:Nat} {l:List Msg} (hh:h[id]?=some (rowM l.toArray)) (hl:l.length≤1000000):
 Yt 2000153 152 [winM id l.length,cm] h=some (.tup [],h.set id (rowM (CQ l).toArray)):=by
 have hd:2000153/1000000=2:=rfl
 have tg:(l.map Aa).all (i3t (Ue (l.map Aa)))=true:=by
  cases l with
  |nil=>rfl
  |cons x l=>exact AFN (x::l)
 have mk:((EZ 2 (l.map Oa)).map (Yr (Ue (l.map Aa))))=(CQ l).map Aa:=by
  rw[AMc]
  cases l with
  |nil=>rw[show CQ []=[]from by simp[CQ]];rfl
  |cons x l=>exact APW _
 simp only[Yt,winM,rowM]at hh⊢
 have e1:Nat.beq l.length (l.map Aa).length=true:=by simp
 have e2:Nat.ble (l.map Aa).length Dp=true:=by simp[Dp,Nat.ble_eq];omega
 simp only[hh,hd]
 rw[if_pos (by simp only[tg,AKp,e1,e2];rfl),APV,mk]
theorem AMd {B:Type} (f:Fl) (l:List Msg) (hl:l.length≤1000000) (k:V×List V→Option B):
 ((Du P 39 [] (.lst 152 .nil []) (Bl f l)).bind fun v=>(DN [] v).bind k)=k (winM 0 l.length,[rowM l.toArray]):=by
 cases l with
 |nil=>
  refine(AA (show Du P 39 [] (.lst 152 .nil []) (Bl f [])=some (.lst 152 .nil [])by simp[Du,Y8,Bl,Ac,AU,GL,Dp,Dc,AEk]) _).trans ?_
  rfl
 |cons x t=>
  refine(AA (ACw Y8 (Or.inr rfl) (y:=Bl f (x::t)) (ys:=(x::t).map Aa) rfl (G5 _) (AFM _) (by simp;simp at hl;omega) AEk (fun _=>rfl)) _).trans ?_
  rw[List.nil_append]
  exact AA (show DN [] (.lst 152 .own ((x::t).map Aa))=some (winM 0 (x::t).length,[rowM (x::t).toArray])by simp[DN,winM,rowM]) _
theorem ZM (l:List Msg):(CQ l).length=l.length:=by rw[CQ,List.length_mergeSort]
theorem Ob (f:Fl) (l:List Msg) (hl:l.length≤1000000):Cl 101 [Bl f l] []=some (Bl .sh (CQ l),[]):=by
 rw[AHS,AAH,AAI]
 refine(AMd f l hl _).trans ?_
 rw[AAJ]
 refine(AA (sort_aps (h:=[rowM l.toArray]) (id:=0) rfl hl) _).trans ?_
 rw[AAK]
 have c:Ac [rowM (CQ l).toArray] (winM 0 l.length)=some ((CQ l).map Aa):=by
  simp[Ac,winM,rd,V.at,V.items,rowM]
  rw[←ZM l];exact List.take_of_length_le (by simp)
 have u:(winM 0 l.length).unmut [rowM (CQ l).toArray]= .lst 152 .sh ((CQ l).map Aa):=by
  rw[winM]at c⊢
  simp only[V.unmut,c,G5,AB1,if_true]
 show AP 0 [rowM (CQ l).toArray] (winM 0 l.length)=_
 simp only[AP,u]
 rfl
end
section
open Go AM
def MOk (m:Msg):Prop:=I64 m.fr∧I64 m.to∧I64 m.val
def rowB (m:Msg):List UInt8:=if m.fr<0∨m.to<0 then[]else BG m.fr.toNat++BG m.to.toNat++BG (Xn m.val)
theorem Xp (m:Msg):(rowB m).length≤30:=by
 have a:=Ap 10 m.fr.toNat;have b:=Ap 10 m.to.toNat;have c:=Ap 10 (Xn m.val)
 simp only[rowB];split
 ·simp
 ·simp only[List.length_append,BG];omega
theorem Tt (h:List V):∀l:List Msg,AB h (l.map Aa)=l.map Aa
 |[]=>rfl
 |x::l=>by simp only[List.map_cons,AB,Tt h l];rfl
theorem AFO (h:List V) (f:Fl) (l:List Msg):∃g,V.reify h (Bl f l)=Bl g l:=by
 cases f<;>simp only[Bl,V.reify,Tt]<;>exact⟨_,rfl⟩
theorem JL (h:List V) (f:Fl) (l:List Msg):∃g,AB h [Bl f l]=[Bl g l]:=by
 obtain⟨g,hg⟩:=AFO h f l;exact⟨g,by simp only[AB,hg]⟩
theorem AI6 (f:Fl) (l:List Msg):∃g,(Bl f l).weak=Bl g l:=IW
theorem AMe {m:Msg} (hm:MOk m):Cl 147 [Aa m] []=some (.str (rowB m),[]):=by
 obtain⟨h1,h2,h3⟩:=hm
 have c1:(Bj P 152 (Aa m)&&V.under (List.length ([]:List V)) (Aa m))=true:=by rw[ABy,APU];rfl
 have g0:([]++[Aa m]:List V)[0]?=some (Aa m):=rfl
 rw[AHo,AAi,if_pos c1,AAj]
 refine(ABz g0 _).trans ?_
 by_cases hf:m.fr<0
 ·refine(GK hf _).trans ?_
  rw[BK,BK,U0,rowB,if_pos (Or.inl hf)];rfl
 refine(Gm hf _).trans ?_
 rw[BL]
 refine(AB0 g0 _).trans ?_
 by_cases ht:m.to<0
 ·refine(GK ht _).trans ?_
  rw[BK,U0,rowB,if_pos (Or.inr ht)];rfl
 refine(Gm ht _).trans ?_
 rw[BL,AAk]
 refine(AA (Gy _) _).trans ?_
 have g1:∀o:V,([]++[Aa m]++[o]:List V)[0]?=some (Aa m):=fun o=>rfl
 have o1:∀o:V,([]++[Aa m]++[o]:List V)[1]?=some o:=fun o=>rfl
 have st:∀o o':V,([]++[Aa m]++[o]:List V).set 1 o'=[]++[Aa m]++[o']:=fun o o'=>rfl
 have a:=Ap 10 m.fr.toNat;have b:=Ap 10 m.to.toNat;have c:=Ap 10 (Xn m.val)
 have nr:∀(x:Int) (k:IntKind),AQ [DF ([]++[Aa m]:List V).length,.int k x]=[DF 1,.int k x]:=fun x k=>rfl
 rw[AAl]
 refine(ABz (g1 _) _).trans<|(ABu (by omega) h1.2 _).trans ?_
 rw[nr]
 refine(AA (Dn (o1 _) (Or.inr rfl) (by have:=h1.2;omega) (by simp)) _).trans ?_
 rw[st,AAm]
 refine(AB0 (g1 _) _).trans<|(ABu (by omega) h2.2 _).trans ?_
 rw[nr]
 refine(AA (Dn (o1 _) (Or.inl rfl) (by have:=h2.2;omega) (by simp only[BG,List.length_append,List.length_nil];omega)) _).trans ?_
 rw[st,AAn]
 refine(ZJ (g1 _) _).trans ?_
 rw[nr]
 refine(AA (Tm (o1 _) (Or.inl rfl) h3.1 h3.2 (by simp only[BG,List.length_append,List.length_nil];omega)) _).trans ?_
 rw[st,AAo]
 refine(AA (Fh (o1 _)) _).trans ?_
 rw[VD,rowB,if_neg (by omega)]
 simp
theorem Tv:∀(n:Nat) (l:List Msg),AZ n (l.map Aa)=true
 |_,[]=>rfl
 |n,x::l=>by simp only[List.map_cons,AZ,Tv n l];rfl
theorem Xq (n:Nat) (f:Fl) (l:List Msg):(Bl f l).under n=true:=by cases f<;>first|rfl|exact Tv n l
theorem AFP {l:List Msg} {i:Nat} (hi:i<l.length):(l.map Aa)[i]?=some (Aa l[i]):=by simp[hi]
theorem AI7 (l:List Msg) (hl:∀m∈l,MOk m) (hn:l.length≤1000000) (g:Fl):∀(n i:Nat) (f:Fl) (done:List (List UInt8)),i+n=l.length→OK f→done.length=i→
 Ut (sL f done) (Bl g l) (iv l.length) (iv i) []=some (sL .sh (done++(l.drop i).map rowB),[]):=by
 intro n
 induction n with
 |zero=>
  intro i f done hi hf hd
  rw[TG,Y6]
  refine(Gm (by omega) _).trans ?_
  rw[BL,AEh,AMX 0 [] f (by rcases hf with rfl|rfl<;>(intro h;cases h)),List.drop_eq_nil_of_le (by omega)]
  simp
 |succ n ih=>
  intro i f done hi hf hd
  have hlt:i<l.length:=by omega
  rw[TG,Y6]
  refine(GK (by omega) _).trans ?_
  rw[BK,AEe]
  refine(ACu Y8 (AFP hlt) _).trans<|(ldR _).trans ?_
  refine(AA (Eo (P:=P) (h:=[]++[zero P 152]) (id:=0) rfl (ABy _) rfl) _).trans ?_
  rw[AEf]
  refine(AA (Cf (v:=Aa l[i]) (FX rfl)) _).trans ?_
  refine(AA (AMe (hl _ (List.getElem_mem hlt))) _).trans ?_
  refine(APR hf (by omega) _ _).trans ?_
  rw[AEg]
  refine(Fb (b:=1) (by omega) _).trans ?_
  have u:AZ (List.length ([]:List V)) [sL .own (done++[rowB l[i]]),Bl g l,iv l.length,iv (i+1)]=true:=by
   simp only[AZ,AFJ,Xq];rfl
  refine(if_pos u).trans ?_
  have:=ih (i+1) .own (done++[rowB l[i]]) (by omega) (Or.inl rfl) (by simp[hd])
  rw[List.append_assoc]at this
  rw[List.drop_eq_getElem_cons hlt,List.map_cons]
  exact this
theorem AC1 {l:List Msg} {m:Msg}:m∈CQ l↔m∈l:=List.mem_mergeSort
theorem G6 (l:List Msg):(CQ l).length=l.length:=List.length_mergeSort l
def G7 (l:List Msg):List (List UInt8):=(CQ l).map rowB
theorem AB2 {f:Fl} {l:List Msg} (hl:∀m∈l,MOk m) (hn:l.length≤1000000):Cl 89 [Bl f l] []=some (sL .sh (G7 l),[]):=by
 rw[ALp,AEb,AEc,AEd]
 obtain⟨g,hg⟩:=JL [] f l
 rw[hg]
 refine(AA (Ob g l hn) _).trans ?_
 refine(ACt U9 _).trans ?_
 have:=AI7 (CQ l) (fun m hm=>hl m (AC1.1 hm)) (by rw[G6];exact hn) .sh (CQ l).length 0 .nil [] (by omega) (Or.inr rfl) rfl
 rw[List.drop_zero,List.nil_append]at this
 rw[List.length_map]
 exact this
end
section
open Go AM
abbrev zMs:V:= .agg 151 [.int .i64 0,.int .i64 0,.int .i64 0]
theorem ZN (m:Msg) (n:Nat):(Aa m).under n=true:=rfl
theorem AC2 (m:Msg):tyG 151 (Aa m)=true:=rfl
theorem AFQ {c:V} {H:List V} {p:Msg→Bool} {l:List Msg} (hu:c.under H.length=true) (hl:l.length≤1000000) {fl:Fl} (hfl:fl≠ .lent)
 (hc:∀m∈l,∀K:V→List V→Rv,BI P CJ W c [Aa m] (H++[Aa m]) K=K (.bool (p m)) (H++[Aa m])):∀(n i:Nat) (acc:List Msg) (f:Fl),i+n=l.length→acc.length≤i→(f= .own∨f= .nil∧acc=[])→
 ∃f':Fl,(f'= .own∨f'= .nil)∧KO c (.lst 152 f (acc.map Aa)) (Bl fl l) (.int .i64 (l.length:Int)) (.int .i64 (i:Int)) H.length H=
  AP H.length H (.lst 152 f' ((acc++(l.drop i).filter p).map Aa)):=by
 intro n
 induction n with
 |zero=>
  intro i acc f hi hacc hf
  have ls:AL .lss (.int .i64 (i:Int)) (.int .i64 (l.length:Int))=some (.bool false):=by rw[b_lss,decide_eq_false (by omega)]
  refine⟨f,by rcases hf with rfl|⟨rfl,_⟩<;>simp,?_⟩
  rw[List.drop_eq_nil_of_le (by omega),List.filter_nil,List.append_nil,Jv]
  refine(AA ls _).trans ?_
  exact Aj _ _
 |succ n ih=>
  intro i acc f hi hacc hf
  have h:i<l.length:=by omega
  have ls:AL .lss (.int .i64 (i:Int)) (.int .i64 (l.length:Int))=some (.bool true):=by rw[b_lss,decide_eq_true (by omega)]
  have ix:Eg 152 (Bl fl l) (.int .i64 (i:Int))=some (.rop 152 (Aa l[i])):=by
   rw[Bl,EQ,List.getElem?_map,List.getElem?_eq_getElem h];rfl
  have l1:AV H 152 (.rop 152 (Aa l[i]))=some (Aa l[i]):=En
  have st:=Qj (H:=H) (z:=zMs) (AC2 l[i]) (ZN l[i] _) 152
  have l2:=AEt H (Aa l[i]) 152
  have cv:=hc _ (List.getElem_mem h)
  have nb:∀b:Bool,V.noOwn (.bool b)=true:=fun _=>rfl
  have ad:AL .add (.int .i64 (i:Int)) (.int .i64 1)=some (.int .i64 ((i+1:Nat):Int)):=by rw[DT,wrap_i64 (by omega) (by omega)];rfl
  have uL:∀(f:Fl) (L:List V),(f= .own∨f= .nil)→∀z:Int,AZ H.length [c,.lst 152 f L,Bl fl l,.int .i64 (l.length:Int),.int .i64 z]=true:=fun f L hf z=>by
   simp only[AZ,hu,Bool.true_and,V.under,Bool.and_true]
   rcases hf with rfl|rfl<;>(cases fl<;>first|rfl|exact absurd rfl hfl)
  rw[List.drop_eq_getElem_cons h]
  cases hq:p l[i]with
  |true=>
   rw[hq]at cv
   obtain⟨f',hf',ih'⟩:=ih (i+1) (acc++[l[i]]) .own (by omega) (by simp;omega) (.inl rfl)
   refine⟨f',hf',?_⟩
   have bs:Nr 152 false (ck [(tyG 151) (Aa l[i])] [Aa l[i]])=some (.lst 152 .own [Aa l[i]]):=rfl
   have ap:∀h:List V,Gv 152 (tyG 151) false h (.lst 152 f (acc.map Aa)) (.lst 152 .own [Aa l[i]])=some (.lst 152 .own ((acc++[l[i]]).map Aa)):=fun h=>by
    have cl:AU [Aa l[i]]=true:=rfl
    have ty:[Aa l[i]].all (tyG 151)=true:=rfl
    rw[List.map_append]
    rcases hf with rfl|⟨rfl,rfl⟩
    ·rw[Dt cl ty (by simp;omega)];rfl
    ·rw[List.map_nil,Dx cl ty (by simp)];rfl
   have u2:=uL .own ((acc++[l[i]]).map Aa) (.inl rfl) ((i+1:Nat):Int)
   rw[List.filter_cons_of_pos hq,show acc++l[i]::(l.drop (i+1)).filter p=acc++[l[i]]++(l.drop (i+1)).filter p by simp,←ih',Jv]
   refine(AA ls _).trans ?_
   refine(Ag _ _).trans ?_
   refine(AA ix _).trans ?_
   refine(AA l1 _).trans ?_
   refine(AA st _).trans ?_
   refine(AA l2 _).trans ?_
   refine(cv _).trans ?_
   refine(if_pos (nb true)).trans ?_
   refine(Ag _ _).trans ?_
   refine(AA l2 _).trans ?_
   refine(AA bs _).trans ?_
   refine(AA (ap _) _).trans ?_
   refine(AA ad _).trans ?_
   rw[if_pos u2,Qe]
  |false=>
   rw[hq]at cv
   obtain⟨f',hf',ih'⟩:=ih (i+1) acc f (by omega) (by omega) hf
   refine⟨f',hf',?_⟩
   have u2:=uL f (acc.map Aa) (by rcases hf with rfl|⟨rfl,_⟩<;>simp) ((i+1:Nat):Int)
   rw[List.filter_cons_of_neg (by simp[hq]),←ih',Jv]
   refine(AA ls _).trans ?_
   refine(Ag _ _).trans ?_
   refine(AA ix _).trans ?_
   refine(AA l1 _).trans ?_
   refine(AA st _).trans ?_
   refine(AA l2 _).trans ?_
   refine(cv _).trans ?_
   refine(if_pos (nb false)).trans ?_
   refine(Aj _ _).trans ?_
   refine(AA ad _).trans ?_
   rw[if_pos u2,Qe]
theorem Xr {c:V} {H:List V} {p:Msg→Bool} {l:List Msg} (hu:c.under H.length=true) (hl:l.length≤1000000) {fl:Fl} (hfl:fl≠ .lent)
 (hc:∀m∈l,∀K:V→List V→Rv,BI P CJ W c [Aa m] (H++[Aa m]) K=K (.bool (p m)) (H++[Aa m])):
 Cl 123 [Bl fl l,c] H=some (Bl .sh (l.filter p),H):=by
 obtain⟨f',hf',lp⟩:=AFQ hu hl hfl hc l.length 0 [] .nil (by omega) (Nat.le_refl 0) (.inr ⟨rfl,rfl⟩)
 rw[List.drop_zero,List.nil_append,List.map_nil]at lp
 have lL:E5 (Bl fl l)=some (.int .i64 (l.length:Int)):=by show some _=_;rw[List.length_map]
 have fn:AP H.length H (.lst 152 f' ((l.filter p).map Aa))=some (Bl .sh (l.filter p),H):=by
  rcases hf' with rfl|rfl<;>simp only[AP,V.unmut,V.norm,V.clean,V.over,Bool.and_self,if_true,take_len,Bl]
 rw[←fn,←lp,AHf]
 exact AA lL _
theorem AKq {l:List Msg} (hl:l.length≤1000000) (v:Int) {fl:Fl} (hfl:fl= .sh∨fl= .nil∨fl= .own):Cl 114 [Bl fl l,.int .i64 v] []=some (Bl .sh (CQ (l.filter fun m=>decide (m.to=v))),[]):=by
 have hc:∀m∈l,∀K:V→List V→Rv,BI P CJ W (.clo 167 [.ref 0 [] 3]) [Aa m] ([.int .i64 v]++[Aa m]) K=K (.bool (decide (m.to=v))) ([.int .i64 v]++[Aa m]):=fun m _ K=>by
  refine(Gw K (by kernel_rfl) (by kernel_rfl)).trans ?_
  have e:Cl 167 [Aa m,.ref 0 [] 3] ([.int .i64 v]++[Aa m])=some (.bool (decide (m.to=v)),[.int .i64 v]++[Aa m]):=by
   obtain⟨a,b,c⟩:=m
   have eq:=b_eql .i64 b v
   rw[AHv]
   cases hd:decide (b=v)
   all_goals
    rw[hd]at eq
    unfold Aa
    (repeat' with_reducible first|refine(Ag _ _).trans ?_|refine(Aj _ _).trans ?_|refine(AO _ _).trans ?_|((first|(refine' (AA ?_ _).trans ?_;rotate_left)|refine(if_pos ?_).trans ?_|refine(BU ?_ _ _).trans ?_);focus (first|rfl|(simp(disch:=first|assumption|omega|with_reducible rfl|(simp only[go_sem]<;>omega)|fail) only[↓reduceIte,↓AO,Nat.reduceAdd,go_sem,Bool.not_true,Bool.not_false,eq]<;>first|rfl|omega)|assumption|omega))|(refine(BF ?_ _ _).trans ?_;focus (first|(simp(disch:=first|assumption|omega|with_reducible rfl|(simp only[go_sem]<;>omega)|fail) only[↓reduceIte,↓AO,Nat.reduceAdd,go_sem,Bool.not_true,Bool.not_false,eq]<;>omega)|assumption|omega))|fail)
    rfl
  exact AA e _
 have pk:=Xr (c:= .clo 167 [.ref 0 [] 3]) (H:=[.int .i64 v]) (p:=fun m=>decide (m.to=v)) (l:=l) (fl:= .sh) rfl hl (by simp) hc
 have pk2:∀fl:Fl,(fl= .sh∨fl= .nil∨fl= .own)→Cl 123 (AQ [Bl fl l,.clo 167 [.ref 0 [] 3]]) [.int .i64 v]=some (Bl .sh (l.filter fun m=>decide (m.to=v)),[.int .i64 v]):=fun fl hfl=>by
  rcases hfl with rfl|rfl|rfl<;>exact pk
 have so:=Ob .sh (l.filter fun m=>decide (m.to=v)) (by have:=List.length_filter_le (fun m:Msg=>decide (m.to=v)) l;omega)
 rw[AHX]
 have t0:((AM.tyI .i64) (.int .i64 v)&&V.under 0 (.int .i64 v))=true:=rfl
 refine(if_pos t0).trans ?_
 refine(AA (show _=some (V.clo 167 [.ref 0 [] 3])from rfl) _).trans ?_
 refine(AA (pk2 fl hfl) _).trans ?_
 refine(AA (show Cl 101 (AB [.int .i64 v] [Bl .sh (l.filter fun m=>decide (m.to=v))]) []=_ from so) _).trans ?_
 rfl
end
section
open Go AM
theorem ZO {B:Type} {p:Prop} [Decidable p] {a b:Option B} {r:Option B} (h:p→a=r) (h2:¬p→b=r):V.ite (.bool (decide p)) a b=r:=by
 by_cases hp:p
 ·rw[decide_eq_true hp];exact h hp
 ·rw[decide_eq_false hp];exact h2 hp
theorem ZP {B:Type} {p:Bool} {a b:Option B} {r:Option B} (h:p=true→a=r) (h2:p=false→b=r):V.ite (.bool p) a b=r:=by
 cases p
 ·exact h2 rfl
 ·exact h rfl
@[go_sem] theorem ANy (id:Nat) (p:List Nat) (t:TypeId):V.capOk (.ref id p t)=true:=(rfl)
@[go_sem] theorem ANz {B:Type} (a b:B):(if(true:Bool)=true then a else b)=a:=(rfl)
theorem MG {R:Type} {f:FuncId} {cs vs h:List V} (k:V→List V→Option R) (he:CJ.ext f=false) (hp:CJ.pure f=false) {r:V} {h':List V} (e:Cl f (AQ (vs++cs)) h=some (r,h')) (hs:(CJ.seq f).1=0:=by kernel_rfl):BI P CJ W (.clo f cs) vs h k=k r h':=by
 rw[Gw k he hp hs,e];rfl
end
section
open Go AM
namespace Ed
structure Edg where
 fr:Nat
 to:Nat
 w:Int
 hf:fr<64
 ht:to<64
instance:Inhabited Edg:=⟨⟨0,0,0,by omega,by omega⟩⟩
def vEdg (e:Edg):V:= .agg 95 [.int .i64 (e.fr:Int),.int .i64 (e.to:Int),.int .i64 e.w]
def cmpE (x y:Edg):Int:=if x.fr=y.fr then(x.to:Int)-y.to else(x.fr:Int)-y.fr
def ltE (x y:Edg):Bool:=decide (cmpE x y<0)
@[go_sem] theorem AQp (x:Edg):(vEdg x).pl=true:=(rfl)
@[go_sem] theorem APX (x:Edg):tyG 95 (vEdg x)=true:=Qi ..
theorem compare_am (x y:Edg):Cl 158 [vEdg x,vEdg y] []=some (.int .i64 (cmpE x y),[]):=by
 have h1:=x.hf;have h2:=x.ht;have h3:=y.hf;have h4:=y.ht
 rw[AHs,cmpE]
 by_cases h:x.fr=y.fr
 ·rw[if_pos h]
  simp only[vEdg]
  simp(disch:=first|assumption|omega|(with_reducible rfl)|(simp only[go_sem];done)|(simp only[go_sem];omega)|fail) only[↓reduceIte,↓AO,Nat.reduceAdd,go_sem,h]
 ·rw[if_neg h]
  have:¬(x.fr:Int)=(y.fr:Int):=by omega
  simp only[vEdg]
  simp(disch:=first|assumption|omega|(with_reducible rfl)|(simp only[go_sem];done)|(simp only[go_sem];omega)|fail) only[↓reduceIte,↓AO,Nat.reduceAdd,go_sem]
theorem ltE_iff (x y:Edg):ltE x y=true↔(x.fr<y.fr∨x.fr=y.fr∧x.to<y.to):=by
 rw[ltE,decide_eq_true_eq,cmpE]
 by_cases h:x.fr=y.fr
 ·rw[if_pos h];constructor<;>intro k<;>omega
 ·rw[if_neg h];constructor<;>intro k<;>omega
theorem ltE_iff' (x y:Edg):ltE x y=false↔¬(x.fr<y.fr∨x.fr=y.fr∧x.to<y.to):=by
 rw[←ltE_iff,Bool.not_eq_true]
abbrev cm:V:= .clo 158 []
def rowM (d:Array Edg):V:= .row 96 (d.toList.map vEdg)
def winM (id n:Nat):V:= .win id [] 0 n 96
def Oa (e:Edg):Int×Int×Int:=(e.fr,e.to,e.w)
theorem AFR {α β:Type} (f:α→β) {r s:List β} (h:r.Perm s):∀l:List α,l.map f=s→∃l':List α,l'.Perm l∧l'.map f=r:=by
 induction h with
 |nil=>intro l hl;exact⟨l,List.Perm.refl _,hl⟩
 |cons x h ih=>
  intro l hl
  match l,hl with
  |y::l,hl=>
   simp only[List.map_cons,List.cons.injEq]at hl
   obtain⟨l',h1,h2⟩:=ih l hl.2
   exact⟨y::l',h1.cons y,by rw[List.map_cons,hl.1,h2]⟩
 |swap x y r=>
  intro l hl
  match l,hl with
  |a::b::l,hl=>
   simp only[List.map_cons,List.cons.injEq]at hl
   exact⟨b::a::l,List.Perm.swap a b l,by simp[hl]⟩
 |trans h1 h2 ih1 ih2=>
  intro l hl
  obtain⟨l1,a1,a2⟩:=ih2 l hl
  obtain⟨l2,b1,b2⟩:=ih1 l1 a2
  exact⟨l2,b1.trans a1,b2⟩
theorem VK (l:List Edg):∃l':List Edg,l'.Perm l∧l'.map Oa=EZ 1 (l.map Oa):=AFR Oa (JK 1 _) l rfl
def srtL (l:List Edg):List Edg:=Classical.choose (VK l)
theorem srtL_perm (l:List Edg):(srtL l).Perm l:=(Classical.choose_spec (VK l)).1
theorem Xt (l:List Edg):(srtL l).map Oa=EZ 1 (l.map Oa):=(Classical.choose_spec (VK l)).2
theorem ZQ (x:Edg):Oj 1 (Oa x)=true:=by
 have:=x.hf;have:=x.ht
 refine Bool.or_eq_true_iff.2 (Or.inr ?_)
 simp only[Bool.and_eq_true,Oa]
 refine⟨⟨⟨?_,?_⟩,?_⟩,?_⟩<;>exact decide_eq_true (by omega)
theorem ZL (x y:Edg):decide (Rz 1 (Oa x) (Oa y)<0)=ltE x y:=by
 rw[Bool.eq_iff_iff,decide_eq_true_eq,ltE_iff]
 unfold Rz cl3
 rw[if_pos (ZQ x),if_pos (ZQ y),AKo (by rfl)]
 simp only[Oa];omega
theorem srtL_sorted (l:List Edg):(srtL l).Pairwise (fun a b=>ltE b a=false):=by
 have h:=(Xo 1 (l.map Oa)).2
 rw[←Xt]at h
 rw[List.pairwise_iff_getElem]
 intro i j hi hj hij
 have hlen:=(srtL_perm l).length_eq
 have:=h i j (Nat.zero_le _) hij (by simp;omega)
 simp only[List.getElem!_toArray,List.getElem!_eq_getElem?_getD,List.getElem?_map,List.getElem?_eq_getElem hi,List.getElem?_eq_getElem hj,Option.map_some,Option.getD_some]at this
 rw[ZL]at this
 exact this
theorem AFS (u:TypeId):∀l:List Edg,(l.map vEdg).all (i3t 95)=true
 |[]=>rfl
 |x::l=>by rw[List.map_cons,List.all_cons,AFS u l];rfl
theorem AKr:∀l:List Edg,(l.map vEdg).all (fun x=>Oj 1 (t3 x))=true
 |[]=>rfl
 |x::l=>by rw[List.map_cons,List.all_cons,AKr l,Bool.and_true];exact ZQ x
theorem APY (l:List Edg):(l.map vEdg).map t3=l.map Oa:=by rw[List.map_map];rfl
theorem APZ (l:List Edg):(l.map Oa).map (Yr 95)=l.map vEdg:=by rw[List.map_map];rfl
theorem sort_aps {h:List V} {id:Nat} {l:List Edg} (hh:h[id]?=some (rowM l.toArray)) (hl:l.length≤1000000):
 Yt 1000158 96 [winM id l.length,cm] h=some (.tup [],h.set id (rowM (srtL l).toArray)):=by
 have hd:1000158/1000000=1:=rfl
 have tg:(l.map vEdg).all (i3t (Ue (l.map vEdg)))=true:=by
  cases l with
  |nil=>rfl
  |cons x l=>exact AFS 0 (x::l)
 have mk:((EZ 1 (l.map Oa)).map (Yr (Ue (l.map vEdg))))=(srtL l).map vEdg:=by
  rw[←Xt]
  cases l with
  |nil=>rw[List.perm_nil.1 (srtL_perm [])];rfl
  |cons x l=>exact APZ _
 simp only[Yt,winM,rowM]at hh⊢
 have e1:Nat.beq l.length (l.map vEdg).length=true:=by simp
 have e2:Nat.ble (l.map vEdg).length Dp=true:=by simp[Dp,Nat.ble_eq];omega
 simp only[hh,hd]
 rw[if_pos (by simp only[tg,AKr,e1,e2];rfl),APY,mk]
end Ed
end
section
open Go AM
structure E0 where
 fr:Int
 to:Int
 w:Int
 deriving DecidableEq
abbrev tE:TypeId:=95
def D7 (e:E0):V:= .agg tE [.int .i64 e.fr,.int .i64 e.to,.int .i64 e.w]
@[go_sem] theorem ARu (x:E0):(D7 x).pl=true:=(rfl)
@[go_sem] theorem AB3 (l:List E0):IA (l.map D7)=true:=CX (fun _=>rfl) l
@[go_sem] theorem AB4 (x:E0):tyG tE (D7 x)=true:=Qi ..
theorem Xu {l:List E0} {i:Nat} (h:i<l.length):(l.map D7)[i]?=some (D7 l[i]):=by simp[h]
structure Grf where
 n:Int
 es:List E0
abbrev vG (f:Fl) (g:Grf):V:= .agg 23 [.int .i64 g.n,.lst 96 f (g.es.map D7)]
def E8 (n:Int) (e:E0):Bool:=decide (e.fr<0)||decide (n≤e.fr)||decide (e.to<0)||decide (n≤e.to)||decide (e.w<0)||decide (1048576<e.w)
abbrev rG:V:= .ref 0 [] 24
theorem AMf (n:Int) (l:V) (e:E0):Cl 154 [D7 e,rG] [.agg 23 [.int .i64 n,l]]=some (.bool (E8 n e),[.agg 23 [.int .i64 n,l]]):=by
 rw[AHq]
 simp only[D7]
 repeat' first|rfl|refine ZO (fun _=> ?_) (fun _=> ?_)|refine ZP (fun _=> ?_) (fun _=> ?_)|simp(disch:=first|assumption|omega|(with_reducible rfl)|(simp only[go_sem];done)|(simp only[go_sem];omega)|fail) only[↓reduceIte,↓AO,Nat.reduceAdd,go_sem]
 all_goals (simp_all [E8]<;>omega)
abbrev AI8:V:= .clo 154 [rG]
theorem APa {R:Type} (n:Int) (l:V) (e:E0) (k:V→List V→Option R):BI P CJ W AI8 [D7 e] [.agg 23 [.int .i64 n,l]] k=k (.bool (E8 n e)) [.agg 23 [.int .i64 n,l]]:=
 MG k (by kernel_rfl) (by kernel_rfl) (AMf n l e)
def MH {α:Type} (p:α→Bool):Nat→List α→Int
 |_,[]=> -1
 |i,x::l=>if p x=true then(i:Int)else MH p (i+1) l
theorem Xv {α:Type} (p:α→Bool):∀(l:List α) (i:Nat),0≤MH p i l↔l.any p=true
 |[],i=>by simp[MH]
 |x::l,i=>by
  rw[MH,List.any_cons]
  by_cases h:p x=true
  ·rw[if_pos h,h];simp
  ·rw[if_neg h,Xv p l (i+1)];simp[h]
theorem AB5 {α:Type} (p:α→Bool) (l:List α) (i:Nat):decide (0≤MH p i l)=l.any p:=by
 rw[Bool.eq_iff_iff,decide_eq_true_eq];exact Xv p l i
theorem AI9 (n:Int) (L:V) (es:List E0) (hl:es.length<1000000) (f:Fl):∀(m i:Nat),i+m=es.length→
 OC (.lst 96 f (es.map D7)) AI8 (.int .i64 (es.length:Int)) (.int .i64 (i:Int)) 1 [.agg 23 [.int .i64 n,L]]=
  some (.int .i64 (MH (E8 n) i (es.drop i)),[.agg 23 [.int .i64 n,L]]):=by
 intro m
 induction m with
 |zero=>
  intro i hi
  rw[List.drop_eq_nil_of_le (by omega),QE]
  simp(disch:=first|assumption|omega|(with_reducible rfl)|(simp only[go_sem];done)|(simp only[go_sem];omega)|fail) only[↓reduceIte,↓AO,Nat.reduceAdd,go_sem,MH]
 |succ m ih=>
  intro i hi
  have h:i<es.length:=by omega
  have:=ih (i+1) (by omega)
  rw[List.drop_eq_getElem_cons h,MH,QE]
  by_cases ho:E8 n es[i]=true
  ·rw[if_pos ho]
   simp(disch:=first|assumption|omega|(with_reducible rfl)|(simp only[go_sem];done)|(simp only[go_sem];omega)|fail) only[↓reduceIte,↓AO,Nat.reduceAdd,go_sem,Xu h,APa,ho]
  ·rw[if_neg ho,←this]
   simp(disch:=first|assumption|omega|(with_reducible rfl)|(simp only[go_sem];done)|(simp only[go_sem];omega)|fail) only[↓reduceIte,↓AO,Nat.reduceAdd,go_sem,Xu h,APa,ho]
theorem AJA (n:Int) (L:V) {es:List E0} (hl:es.length<1000000) (f:Fl):Cl 155 [.lst 96 f (es.map D7),AI8] [.agg 23 [.int .i64 n,L]]=some (.bool (es.any (E8 n)),[.agg 23 [.int .i64 n,L]]):=by
 have h:=fun f=>AI9 n L es hl f es.length 0 (by omega)
 simp only[c0,List.drop_zero]at h
 have ix:∀f,Cl 188 [.lst 96 f (es.map D7),AI8] [.agg 23 [.int .i64 n,L]]=some (.int .i64 (MH (E8 n) 0 es),[.agg 23 [.int .i64 n,L]]):=fun f=>by
  rw[←h f,AIC]
  simp(disch:=first|assumption|omega|(with_reducible rfl)|(simp only[go_sem];done)|(simp only[go_sem];omega)|fail) only[↓reduceIte,↓AO,Nat.reduceAdd,go_sem]
 rw[AHr,←AB5 (E8 n) es 0]
 simp(disch:=first|assumption|omega|(with_reducible rfl)|(simp only[go_sem];done)|(simp only[go_sem];omega)|fail) only[↓reduceIte,↓AO,Nat.reduceAdd,go_sem,ix]
def AFT (n:Int) (e:E0) (h:E8 n e=false) (hn:n≤64):Ed.Edg:=⟨e.fr.toNat,e.to.toNat,e.w,by simp[E8]at h;omega,by simp[E8]at h;omega⟩
theorem AFU {n:Int} (hn:n≤64):∀es:List E0,es.any (E8 n)=false→∃l:List Ed.Edg,l.map Ed.vEdg=es.map D7∧l.map (fun x=>((x.fr:Int),(x.to:Int)))=es.map fun e=>(e.fr,e.to)
 |[],_=>⟨[],rfl,rfl⟩
 |e::es,h=>by
  rw[List.any_cons,Bool.or_eq_false_iff]at h
  obtain⟨l,h1,h2⟩:=AFU hn es h.2
  have hb:=h.1
  simp only[E8,Bool.or_eq_false_iff,decide_eq_false_iff_not]at hb
  refine⟨AFT n e h.1 hn::l,?_,?_⟩
  ·rw[List.map_cons,List.map_cons,h1,Ed.vEdg,D7,AFT]
   simp only[]
   rw[show(e.fr.toNat:Int)=e.fr by omega,show(e.to.toNat:Int)=e.to by omega]
  ·rw[List.map_cons,List.map_cons,h2,AFT]
   simp only[]
   rw[show(e.fr.toNat:Int)=e.fr by omega,show(e.to.toNat:Int)=e.to by omega]
abbrev FN (f:Fl) (l:List Ed.Edg):V:= .lst 96 f (l.map Ed.vEdg)
def Be (l:List Ed.Edg):List Ed.Edg:=Ed.srtL l
theorem J5 (l:List Ed.Edg):(Be l).Perm l:=Ed.srtL_perm l
theorem JM (l:List Ed.Edg):(Be l).length=l.length:=(J5 l).length_eq
theorem AC3 (a:V) (f:Fl) (l:List Ed.Edg):Cl 157 [FN .sh l] [a]=some (.clo 191 [.ref 1 [] 22],[a,FN .sh l]):=by
 rw[AAy]
 simp(disch:=first|assumption|omega|(with_reducible rfl)|(simp only[go_sem];done)|(simp only[go_sem];omega)|fail) only[↓reduceIte,↓AO,Nat.reduceAdd,go_sem]
 rfl
theorem AFV (l:List Ed.Edg):(l.map Ed.vEdg).all i3=true:=by simp[Ed.vEdg,i3]
theorem ZR (a:V) {l:List Ed.Edg} (hl:l.length≤1000000):Cl 189 [.clo 191 [.ref 1 [] 22]] [a,FN .sh l]=some (Ed.winM 2 l.length,[a,FN .sh l,Ed.rowM l.toArray]):=by
 rw[ABN]
 have ap:Yt 191 96 [.lst 96 .nil [],.clo 191 [.ref 1 [] 22]] [a,FN .sh l]=some (Ed.winM 2 l.length,[a,FN .sh l,Ed.rowM l.toArray]):=by
  simp only[Yt,List.getElem?_cons_succ,List.getElem?_cons_zero,AFV,List.length_map]
  rw[if_pos (by simp[Dp,Nat.ble_eq];omega)]
  simp[Ed.winM,Ed.rowM]
 rw[ap];rfl
theorem ZT (a:V) {l:List Ed.Edg} (hl:l.length≤1000000):Cl 156 [.clo 191 [.ref 1 [] 22],Ed.cm] [a,FN .sh l]=some (FN .sh (Be l),[a,FN .sh l]):=by
 have c:=ZR a hl
 have s:Yt 1000158 96 [Ed.winM 2 l.length,Ed.cm] [a,FN .sh l,Ed.rowM l.toArray]=some (.tup [],[a,FN .sh l,Ed.rowM (Be l).toArray]):=Ed.sort_aps rfl hl
 have ct:Ac [a,FN .sh l,Ed.rowM (Be l).toArray] (Ed.winM 2 l.length)=some ((Be l).map Ed.vEdg):=by
  simp[Ac,Ed.winM,rd,V.at,V.items,Ed.rowM]
  rw[←JM l];exact List.take_of_length_le (by simp)
 have cl:AU ((Be l).map Ed.vEdg)=true:=L8 (CX (fun _=>rfl) _)
 have nl:AQ ((Be l).map Ed.vEdg)=(Be l).map Ed.vEdg:=KZ (CX (fun _=>rfl) _)
 have fin:AP 2 [a,FN .sh l,Ed.rowM (Be l).toArray] (Ed.winM 2 l.length)=some (FN .sh (Be l),[a,FN .sh l]):=by
  have u:(Ed.winM 2 l.length).unmut [a,FN .sh l,Ed.rowM (Be l).toArray]=FN .sh (Be l):=by
   rw[Ed.winM]at ct⊢
   simp only[V.unmut,ct,cl,nl,if_true]
  simp only[AP,u];rfl
 rw[AAx]
 refine(AA c _).trans ?_
 refine(AA s _).trans ?_
 exact fin
def Xw:Ed.Edg→List Ed.Edg→Bool
 |_,[]=>false
 |x,y::r=>decide (Ed.cmpE x y=0)||Xw y r
@[go_sem] theorem AB6 (l:List Ed.Edg):IA (l.map Ed.vEdg)=true:=CX (fun _=>rfl) l
theorem VL {l:List Ed.Edg} {i:Nat} (h:i<l.length):(l.map Ed.vEdg)[i]?=some (Ed.vEdg l[i]):=by simp[h]
theorem AJB (a b:V) {l:List Ed.Edg} (hl:l.length≤1000000):∀(n i:Nat) (hi:i<l.length),i+1+n=l.length→
 KL (FN .sh l) (.int .i64 ((i+1:Nat):Int)) [a,b]=some (.int .i64 (if Xw l[i] (l.drop (i+1))=true then 51 else 0),[]):=by
 intro n
 induction n with
 |zero=>
  intro i hi hn
  rw[List.drop_eq_nil_of_le (by omega),Xw,Ju]
  simp(disch:=first|assumption|omega|(with_reducible rfl)|(simp only[go_sem];done)|(simp only[go_sem];omega)|fail) only[↓reduceIte,↓AO,Nat.reduceAdd,go_sem]
  rfl
 |succ n ih=>
  intro i hi hn
  have h:i+1<l.length:=by omega
  have:=ih (i+1) h (by omega)
  rw[List.drop_eq_getElem_cons h,Xw,Ju]
  by_cases hc:Ed.cmpE l[i] l[i+1]=0
  ·rw[decide_eq_true hc,Bool.true_or,if_pos rfl]
   simp(disch:=first|assumption|omega|(with_reducible rfl)|(simp only[go_sem];done)|(simp only[go_sem];omega)|fail) only[↓reduceIte,↓AO,Nat.reduceAdd,go_sem,VL hi,VL h,Ed.compare_am,hc,Nat.add_sub_cancel]
  ·rw[decide_eq_false hc,Bool.false_or,←this]
   simp(disch:=first|assumption|omega|(with_reducible rfl)|(simp only[go_sem];done)|(simp only[go_sem];omega)|fail) only[↓reduceIte,↓AO,Nat.reduceAdd,go_sem,VL hi,VL h,Ed.compare_am,Nat.add_sub_cancel]
def JX (x:Ed.Edg):Int×Int:=((x.fr:Int),(x.to:Int))
theorem AJC (x y:Ed.Edg):Ed.cmpE x y=0↔JX x=JX y:=by
 rw[Ed.cmpE,JX,JX,Prod.mk.injEq]
 by_cases h:x.fr=y.fr
 ·rw[if_pos h];omega
 ·rw[if_neg h];omega
theorem NS {x y:Ed.Edg} (h:Ed.ltE y x=false) (hn:JX x≠JX y):Ed.ltE x y=true:=by
 rw[Ed.ltE_iff']at h
 rw[Ed.ltE_iff]
 simp only[JX,ne_eq,Prod.mk.injEq]at hn
 omega
theorem AB7:∀(r:List Ed.Edg) (x:Ed.Edg),(x::r).Pairwise (fun a b=>Ed.ltE b a=false)→(Xw x r=false↔((x::r).map JX).Nodup)
 |[],x,_=>by simp[Xw]
 |y::r,x,h=>by
  obtain⟨h1,h2⟩:=List.pairwise_cons.1 h
  have ih:=AB7 r y h2
  rw[Xw,Bool.or_eq_false_iff,ih,decide_eq_false_iff_not,AJC,List.map_cons (l:=y::r),List.nodup_cons]
  refine and_congr_left fun hd=>⟨fun hn hm=> ?_,fun hm he=>hm (by rw[he];simp)⟩
  obtain⟨z,hz,he⟩:=List.mem_map.1 hm
  rcases List.mem_cons.1 hz with rfl|hz
  ·exact hn he.symm
  ·have a:=NS (h1 y List.mem_cons_self) hn
   have b:=(List.pairwise_cons.1 h2).1 z hz
   rw[Ed.ltE_iff]at a
   rw[Ed.ltE_iff']at b
   simp only[JX,Prod.mk.injEq]at he
   omega
theorem Kv (l:List Ed.Edg):(Be l).Pairwise (fun a b=>Ed.ltE b a=false):=Ed.srtL_sorted l
def FB (g:Grf):Int:=if 1≤g.n∧g.n≤64∧g.es.length≤512∧g.es.any (E8 g.n)=false then(if(g.es.map fun e=>(e.fr,e.to)).Nodup then 0 else 51)else 50
theorem Tz {g:Grf} (hl:g.es.length<1000000):Cl 102 [vG .sh g] []=some (.int .i64 (FB g),[]):=by
 have an:=AJA g.n (.lst 96 .sh (g.es.map D7)) hl .sh
 by_cases h1:g.n<1
 ·rw[FB,if_neg (by omega),KN]
  simp(disch:=first|assumption|omega|(with_reducible rfl)|(simp only[go_sem];done)|(simp only[go_sem];omega)|fail) only[↓reduceIte,↓AO,Nat.reduceAdd,go_sem]
 by_cases h2:64<g.n
 ·rw[FB,if_neg (by omega),KN]
  simp(disch:=first|assumption|omega|(with_reducible rfl)|(simp only[go_sem];done)|(simp only[go_sem];omega)|fail) only[↓reduceIte,↓AO,Nat.reduceAdd,go_sem]
 by_cases h3:512<g.es.length
 ·rw[FB,if_neg (by omega),KN]
  simp(disch:=first|assumption|omega|(with_reducible rfl)|(simp only[go_sem];done)|(simp only[go_sem];omega)|fail) only[↓reduceIte,↓AO,Nat.reduceAdd,go_sem]
 by_cases h4:g.es.any (E8 g.n)=true
 ·rw[FB,if_neg (by rw[h4];simp),KN]
  simp(disch:=first|assumption|omega|(with_reducible rfl)|(simp only[go_sem];done)|(simp only[go_sem];omega)|fail) only[↓reduceIte,↓AO,Nat.reduceAdd,go_sem,an,h4]
 have h4:g.es.any (E8 g.n)=false:=by simpa using h4
 obtain⟨l,l1,l2⟩:=AFU (by omega) g.es h4
 have hlen:l.length=g.es.length:=by have:=congrArg List.length l1;simpa using this
 have v:=AC3 (vG .sh g) .sh l
 have st:=ZT (vG .sh g) (l:=l) (by omega)
 have hsl:=JM l
 have hnd:(g.es.map fun e=>(e.fr,e.to)).Nodup↔((Be l).map JX).Nodup:=by
  rw[←l2];exact(((J5 l).map JX).nodup_iff).symm
 have so:=Kv l
 rw[FB,if_pos ⟨by omega,by omega,by omega,h4⟩]
 have e:(if(g.es.map fun e=>(e.fr,e.to)).Nodup then(0:Int)else 51)=(if((Be l).map JX).Nodup then(0:Int)else 51):=by
  by_cases hh:(g.es.map fun e=>(e.fr,e.to)).Nodup
  ·rw[if_pos hh,if_pos (hnd.1 hh)]
  ·rw[if_neg hh,if_neg (fun k=>hh (hnd.2 k))]
 rw[e]
 have rest:KL (FN .sh (Be l)) (.int .i64 1) [vG .sh g,FN .sh l]=some (.int .i64 (if((Be l).map JX).Nodup then(0:Int)else 51),[]):=by
  cases hs:Be l with
  |nil=>
   rw[Ju]
   simp(disch:=first|assumption|omega|(with_reducible rfl)|(simp only[go_sem];done)|(simp only[go_sem];omega)|fail) only[↓reduceIte,↓AO,Nat.reduceAdd,go_sem]
   rfl
  |cons x r=>
   have:=AJB (vG .sh g) (FN .sh l) (l:=x::r) (by rw[←hs];omega) r.length 0 (by simp) (by simp;omega)
   simp only[Nat.zero_add,c1,List.getElem_cons_zero,List.drop_succ_cons,List.drop_zero]at this
   rw[this]
   rw[hs]at so
   have ai:=AB7 r x so
   by_cases hh:((x::r).map JX).Nodup
   ·rw[if_pos hh,if_neg (by rw[ai.2 hh];simp)]
   ·rw[if_neg hh,if_pos (by cases ha:Xw x r with
     |true=>rfl
     |false=>exact absurd (ai.1 ha) hh)]
 have l3:l.length≤512:=by omega
 simp only[vG,←l1]at an v st rest⊢
 rw[KN]
 generalize Be l=s at*
 simp(disch:=first|assumption|omega|(with_reducible rfl)|(simp only[go_sem];done)|(simp only[go_sem];omega)|fail) only[↓reduceIte,↓AO,Nat.reduceAdd,go_sem,an,h4,v,st,rest]
end
section
open Go AM
theorem APb (a b:List UInt8):CS P 245 2 [(0,bL .own a),(1,bL .own b)]=some (.lst 172 .own (parts [(.sh,a),(.sh,b)])):=by
 simp[CS,Qb,Bv,tyB,cp,AEl,bL,List.replicate,AU,V.clean,Dc,AQ,V.norm,V.weak,parts,part,EC,Bj]
theorem APc (f g:Fl) (a b:List UInt8):flat [(f,a),(g,b)]=a++b:=by simp[flat]
theorem AJD {s:List UInt8} (hs:s.length<2147000000):Cl 177 [.str s] []=some (BR (Xd (0::s)),[]):=by
 rw[AH5,AA9,ABA,AIk]
 refine(AA (AE6 0 (by omega)) _).trans<|(AFH (by omega) _).trans<|(AA (APb _ _) _).trans ?_
 obtain⟨f',L',e1,e2,e3⟩:=NQ ([]++[BR (List.replicate 32 0)]) .own [(.sh,[UInt8.ofNat 0]),(.sh,s)]
 have er:AB ([]++[BR (List.replicate 32 0)]) [.lst 172 .own (parts [(.sh,[UInt8.ofNat 0]),(.sh,s)])]=[.lst 172 f' (parts L')]:=by simp only[AB,e1]
 rw[er]
 rw[APc]at e2
 refine(AA (Xf L' (by rw[e3];simp) f' (by rw[e2];simp;omega) (by rw[e2];simp)) _).trans ?_
 refine(AA (Eo (P:=P) (h:=[]++[BR (List.replicate 32 0)]) (id:=0) rfl (ABn _) (ABo _ _)) _).trans ?_
 refine(AA (Cf (h:=[BR (Xd (flat L'))]) (id:=0) (v:=BR (Xd (flat L'))) (FX rfl)) _).trans ?_
 rw[VF,e2];rfl
end
section
open Go AM
theorem AMg (a b c:List UInt8) (id:Nat) (h:List V):CS P 245 3 [(0,bL .own a),(1,bL .own b),(2,.win id [] 0 32 5)]=some (.lst 172 .lent [bL .sh a,bL .sh b,.win id [] 0 32 5]):=by
 simp[CS,Qb,Bv,tyB,cp,AEl,bL,List.replicate,AU,V.clean,Dc,AQ,V.norm,V.weak,EC,Bj]
theorem ARv {id:Nat}:NE P 66 (.ref id [] 66) none none none=some (.win id [] 0 32 5):=by
 simp[NE,ALt,Bd]
theorem VN {h:List V} {id:Nat} {c:List UInt8} (hh:h[id]?=some (BR c)) (hc:c.length=32):V.reify h (.win id [] 0 32 5)=bL .lent c:=by
 have:Ac h (.win id [] 0 32 5)=some (bytesOf c):=by
  simp[Ac,rd,hh,V.at,V.items,BR]
  rw[List.take_of_length_le (by rw[Af];omega)]
 simp only[V.reify,this,CP,Fe,if_true,bL]
def AFW (n:Nat) (t:List UInt8):List UInt8:=Xd ([3]++BG n++t)
theorem AJE {n:Nat} {t:List UInt8} (hn:n<1000000000) (ht:t.length=32):Cl 146 [iv n,BR t] []=some (BR (AFW n t),[]):=by
 have c1:(Bj P 66 (BR t)&&V.under (List.length ([]:List V)) (BR t))=true:=by rw[ABn,ABo];rfl
 have nb:=Ap 10 n
 rw[AHn,AAe,if_pos c1,AIk,AAf]
 refine(AA (Gy _) _).trans ?_
 rw[AAg]
 refine(ABu (by omega) (by omega) _).trans ?_
 have e1:AQ [DF (([]++[BR t])++[BR (List.replicate 32 0)]:List V).length,V.int .u64 ((n:Int).toNat:Int)]=[DF 2,V.int .u64 (n:Int)]:=rfl
 rw[e1]
 refine(AA (Dn (id:=2) (h:=(([]++[BR t])++[BR (List.replicate 32 0)])++[BA .nil []]) rfl (Or.inr rfl) (by omega) (by simp)) _).trans ?_
 rw[AAh]
 have eh:((([]++[BR t])++[BR (List.replicate 32 0)])++[BA .nil []]:List V).set 2 (BA .own ([]++BG n))=[BR t,BR (List.replicate 32 0),BA .own (BG n)]:=rfl
 rw[eh]
 refine(AA (AE6 3 (by omega)) _).trans ?_
 refine(AA (Fh (id:=2) (h:=[BR t,BR (List.replicate 32 0),BA .own (BG n)]) rfl) _).trans ?_
 refine(AFH (by rw[BG];omega) _).trans<|(AA ARv _).trans<|(AA (AMg [UInt8.ofNat 3] (BG n) [] 0 []) _).trans ?_
 have er:AB [BR t,BR (List.replicate 32 0),BA .own (BG n)] [.lst 172 .lent [bL .sh [UInt8.ofNat 3],bL .sh (BG n),.win 0 [] 0 32 5]]=[.lst 172 .lent (parts [(.sh,[UInt8.ofNat 3]),(.sh,BG n),(.lent,t)])]:=by
  have w:=VN (h:=[BR t,BR (List.replicate 32 0),BA .own (BG n)]) (id:=0) (c:=t) rfl ht
  show[V.lst 172 .lent [V.reify _ (bL .sh [UInt8.ofNat 3]),V.reify _ (bL .sh (BG n)),V.reify [BR t,BR (List.replicate 32 0),BA .own (BG n)] (.win 0 [] 0 32 5)]]=_
  rw[w];rfl
 rw[er]
 have ef:flat [(.sh,[UInt8.ofNat 3]),(.sh,BG n),(.lent,t)]=[3]++BG n++t:=by simp[flat]
 refine(AA (Xf _ (by simp) .lent (by rw[ef];simp only[List.length_append,BG];simp;omega) (by rw[ef];simp)) _).trans ?_
 rw[ef]
 refine(AA (Eo (P:=P) (h:=[BR t,BR (List.replicate 32 0),BA .own (BG n)]) (id:=1) rfl (ABn _) (ABo _ _)) _).trans ?_
 refine(AA (Cf (h:=[BR t,BR (Xd ([3]++BG n++t)),BA .own (BG n)]) (id:=1) (v:=BR (Xd ([3]++BG n++t))) (FX rfl)) _).trans ?_
 exact VF _ _ _
end
section
open Go AM
@[go_sem] theorem VO (l:List UInt8):(BR l).pl=true:=TN l
@[go_sem] theorem VP (l:List UInt8):tyG 65 (BR l)=true:=Qi ..
theorem MI:V.agg 65 (List.replicate 32 (V.int .u8 0))=BR (List.replicate 32 0):=rfl
@[go_sem] theorem AFX (l:List (List UInt8)):IA (l.map V.str)=true:=CX (fun _=>rfl) l
@[go_sem] theorem APd (l:List (List UInt8)):(l.map V.str).all tyS=true:=all_map (fun _=>rfl) l
@[go_sem] theorem ARw (l:List UInt8):IA (bytesOf l)=true:=TN l
def Qw (n:Nat):Nat→Nat→Nat
 |0,k=>k
 |f+1,k=>if 2*k<n then Qw n f (2*k)else k
def Qx (n:Nat):Nat:=Qw n 62 1
theorem Xx (n:Nat):∀(f k:Nat),0<k→k<n→0<Qw n f k∧Qw n f k<n
 |0,k,h,h2=>⟨h,h2⟩
 |f+1,k,h,h2=>by
  rw[Qw];split
  ·exact Xx n f (2*k) (by omega) (by omega)
  ·exact⟨h,h2⟩
theorem ARx {n k f:Nat} (h:n<k*2^(f+1)):n<2*k*2^f:=by
 rw[Nat.pow_succ]at h
 have e:k*(2^f*2)=2*k*2^f:=by rw[Nat.mul_comm 2 k,Nat.mul_assoc,Nat.mul_comm (2^f)]
 omega
theorem AJF (n:Nat) (hn:n<2^61):∀(f k:Nat),0<k→k≤n→n<k*2^f→Nu (iv n) (iv k)=some (iv (Qw n f k),[]):=by
 intro f
 induction f with
 |zero=>intro k h h2 h3;omega
 |succ f ih=>
  intro k h h2 h3
  rw[Y7,Qw]
  have h2':(2:Int)*(k:Int)=((2*k:Nat):Int):=by omega
  by_cases hk:2*k<n
  ·rw[if_pos hk]
   refine(AA (AOr (by omega) (by omega)) _).trans<|(GK (by omega) _).trans ?_
   rw[BK]
   refine(AA (AOs (by omega) (by omega)) _).trans ?_
   rw[show(k:Int)*2=((2*k:Nat):Int)by omega]
   exact ih (2*k) (by omega) (by omega) (ARx h3)
  ·rw[if_neg hk]
   refine(AA (AOr (by omega) (by omega)) _).trans<|(Gm (by omega) _).trans ?_
   rfl
theorem AJG {n:Nat} (h2:2≤n) (hn:n<2^61):Cl 132 [iv n] []=some (iv (Qx n),[]):=by
 rw[AHm]
 refine(Gm (by omega) _).trans ?_
 rw[BL]
 exact AJF n hn 62 1 (by omega) (by omega) (by omega)
def AKs (a b:List UInt8):List UInt8:=Xd ([1]++a++b)
theorem AJH {a b:List UInt8} (ha:a.length=32) (hb:b.length=32):Cl 178 [BR a,BR b] []=some (BR (AKs a b),[]):=by
 have er:V.reify [BR a,BR b,BR (List.replicate 32 0)] (.lst 172 .lent [bL .sh [1],.win 0 [] 0 32 5,.win 1 [] 0 32 5])= .lst 172 .lent (parts [(.sh,[1]),(.lent,a),(.lent,b)]):=by
  have w:=VN (h:=[BR a,BR b,BR (List.replicate 32 0)]) (id:=0) (c:=a) rfl ha
  have w':=VN (h:=[BR a,BR b,BR (List.replicate 32 0)]) (id:=1) (c:=b) rfl hb
  show V.lst 172 .lent [V.reify _ (bL .sh [1]),V.reify [BR a,BR b,BR (List.replicate 32 0)] (.win 0 [] 0 32 5),V.reify [BR a,BR b,BR (List.replicate 32 0)] (.win 1 [] 0 32 5)]=_
  rw[w,w'];rfl
 have ef:flat [(.sh,[1]),(.lent,a),(.lent,b)]=[1]++a++b:=by simp[flat]
 rw[AH6,MI]
 simp(disch:=first|assumption|omega|(with_reducible rfl)|(simp only[go_sem];done)|(simp only[go_sem];omega)|fail) only[↓reduceIte,↓AO,Nat.reduceAdd,go_sem]
 refine(AA (show Nr 172 true (some [.lst 5 .sh [.int .u8 1],(V.win 0 [] 0 32 5).weak,(V.win 1 [] 0 32 5).weak])=some (.lst 172 .lent [bL .sh [1],.win 0 [] 0 32 5,.win 1 [] 0 32 5])from rfl) _).trans ?_
 rw[er]
 refine(AA (Xf _ (by simp) .lent (by rw[ef];simp;omega) (by rw[ef];simp)) _).trans ?_
 rw[ef]
 simp(disch:=first|assumption|omega|(with_reducible rfl)|(simp only[go_sem];done)|(simp only[go_sem];omega)|fail) only[↓reduceIte,↓AO,Nat.reduceAdd,go_sem]
 rfl
def Xy:Nat→List (List UInt8)→List UInt8
 |0,_=>Xd [2]
 |f+1,l=>if l.length=0 then Xd [2]else if l.length=1 then Xd (0::l.getD 0 [])else AKs (Xy f (l.take (Qx l.length))) (Xy f (l.drop (Qx l.length)))
theorem Qy:∀(f:Nat) (l:List (List UInt8)),(Xy f l).length=32
 |0,_=>OW _
 |f+1,l=>by rw[Xy];split;·exact OW _
            split<;>exact OW _
def Short (l:List (List UInt8)):Prop:=∀s∈l,s.length<2147000000
theorem Short.take {l:List (List UInt8)} (h:Short l) (n:Nat):Short (l.take n):=fun s hs=>h s (List.mem_of_mem_take hs)
theorem Short.drop {l:List (List UInt8)} (h:Short l) (n:Nat):Short (l.drop n):=fun s hs=>h s (List.mem_of_mem_drop hs)
theorem of0 {x:Nat} (hx:x<256) {g:Fl}:Cl 176 [.lst 172 g [.lst 5 .sh [.int .u8 (x:Int)]]] []=some (BR (Xd [UInt8.ofNat x]),[]):=by
 have e:[V.lst 5 .sh [.int .u8 (x:Int)]]=parts [(.sh,[UInt8.ofNat x])]:=by
  simp only[parts,part,List.map_cons,List.map_nil,bL,bytesOf]
  rw[UInt8.toNat_ofNat',Nat.mod_eq_of_lt (by omega)]
 rw[e,Xf _ (by simp) g (by simp[flat]) (by simp[flat])]
 simp[flat]
theorem AFY {n:Nat} (h:2≤n):0<Qx n∧Qx n<n:=Xx n 62 1 (by omega) (by omega)
theorem AMh:∀(f:Nat) (l:List (List UInt8)) (g:Fl),l.length≤f→f<2000000000→Short l→Cl 133 [.lst 9 g (l.map V.str)] []=some (BR (Xy f l),[]):=by
 intro f
 induction f with
 |zero=>
  intro l g hl _ _
  have:l=[]:=List.eq_nil_of_length_eq_zero (by omega)
  subst this
  rw[AAd,MI,Xy]
  simp(disch:=first|assumption|omega|(with_reducible rfl)|(simp only[go_sem];done)|(simp only[go_sem];omega)|fail) only[↓reduceIte,↓AO,Nat.reduceAdd,go_sem,List.map_nil]
  refine(AA (of0 (x:=2) (by omega)) _).trans ?_
  simp(disch:=first|assumption|omega|(with_reducible rfl)|(simp only[go_sem];done)|(simp only[go_sem];omega)|fail) only[↓reduceIte,↓AO,Nat.reduceAdd,go_sem]
  rfl
 |succ f ih=>
  intro l g hl hf hs
  rw[AAd,MI,Xy]
  by_cases h0:l.length=0
  ·simp(disch:=first|assumption|omega|(with_reducible rfl)|(simp only[go_sem];done)|(simp only[go_sem];omega)|fail) only[↓reduceIte,↓AO,Nat.reduceAdd,go_sem,h0]
   refine(AA (of0 (x:=2) (by omega)) _).trans ?_
   simp(disch:=first|assumption|omega|(with_reducible rfl)|(simp only[go_sem];done)|(simp only[go_sem];omega)|fail) only[↓reduceIte,↓AO,Nat.reduceAdd,go_sem]
   rfl
  by_cases h1:l.length=1
  ·have hg:l[0]?=some (l.getD 0 []):=by rw[List.getD_eq_getElem?_getD,List.getElem?_eq_getElem (by omega)];rfl
   have hm:(l.getD 0 []).length<2147000000:=hs _ (List.mem_of_getElem? hg)
   simp(disch:=first|assumption|omega|(with_reducible rfl)|(simp only[go_sem];done)|(simp only[go_sem];omega)|fail) only[↓reduceIte,↓AO,Nat.reduceAdd,go_sem,h0,h1,List.getElem?_map,hg,AJD hm]
   rfl
  have hh:=AFY (n:=l.length) (by omega)
  have hx:∀g,Cl 133 [.lst 9 g ((l.take (Qx l.length)).map V.str)] []=_:=fun g=>ih _ g (by simp;omega) (by omega) (hs.take _)
  have hy:∀g,Cl 133 [.lst 9 g ((l.drop (Qx l.length)).map V.str)] []=_:=fun g=>ih _ g (by simp;omega) (by omega) (hs.drop _)
  simp(disch:=first|assumption|omega|(with_reducible rfl)|(simp only[go_sem];done)|(simp only[go_sem];omega)|fail) only[↓reduceIte,↓AO,Nat.reduceAdd,go_sem,h0,h1,AJG (n:=l.length) (by omega) (by omega),←List.map_take,←List.map_drop,hx,hy,AJH (Qy _ _) (Qy _ _)]
def AFZ (l:List (List UInt8)):List UInt8:=AFW l.length (Xy l.length l)
theorem MJ (n:Nat) (t:List UInt8):(AFW n t).length=32:=OW _
theorem AB8 {g:Fl} {l:List (List UInt8)} (hl:l.length<1000000000) (hs:Short l):Cl 88 [.lst 9 g (l.map V.str)] []=some (BR (AFZ l),[]):=by
 have h:=fun g=>AMh l.length l g (Nat.le_refl _) (by omega) hs
 rw[ALo,MI]
 simp(disch:=first|assumption|omega|(with_reducible rfl)|(simp only[go_sem];done)|(simp only[go_sem];omega)|fail) only[↓reduceIte,↓AO,Nat.reduceAdd,go_sem,h,AJE (n:=l.length) hl (Qy _ _)]
 rfl
end
section
open Go AM
theorem APe {h:List V} {y:V} {ys:List V} {ty:V→Bool} {xs:List V} (hy:Ac h y=some ys) (hc:AU ys=true) (ht:ys.all ty=true) (hl:xs.length+ys.length≤2147483648) {e:TypeId} {hs:Bool}:
 Gv e ty hs h (.lst e .own xs) y=some (.lst e .own (xs++nlB hs ys)):=by simp[Gv,hy,hc,ht,Dp,hl]
def z32:List UInt8:=List.replicate 32 0
theorem Oc:V.agg 65 (List.replicate 32 (V.int .u8 0))=BR z32:=rfl
theorem VQ:∀a b:List UInt8,a.length=b.length→Le (bytesOf a) (bytesOf b)=some (decide (a=b))
 |[],[],_=>rfl
 |x::a,y::b,h=>by
  have e:∀(z:UInt8) (l:List UInt8),bytesOf (z::l)= .int .u8 (z.toNat:Int)::bytesOf l:=fun _ _=>rfl
  rw[e,e]
  simp only[Le,Jq,if_true,Option.bind_some]
  by_cases hxy:x=y
  ·subst hxy
   simp[VQ a b (by simpa using h)]
  ·have:¬(x.toNat:Int)=(y.toNat:Int):=fun h=>hxy (UInt8.toNat_inj.1 (by omega))
   simp[this,hxy]
 |[],_::_,h=>by simp at h
 |_::_,[],h=>by simp at h
@[go_sem] theorem eqA {a b:List UInt8} (ha:a.length=32) (hb:b.length=32):eqT (tyG 65) .eql (BR a) (BR b)=some (.bool (decide (a=b))):=by
  have h:Jq (BR a) (BR b)=some (decide (a=b)):=by simp only[BR,Jq,if_true,VQ a b (by omega)]
  simp only[eqT,VP,Bool.and_self,if_true,h,Option.map_some]
@[go_sem] theorem neA {a b:List UInt8} (ha:a.length=32) (hb:b.length=32):eqT (tyG 65) .neq (BR a) (BR b)=some (.bool (!decide (a=b))):=by
  have h:Jq (BR a) (BR b)=some (decide (a=b)):=by simp only[BR,Jq,if_true,VQ a b (by omega)]
  simp only[eqT,VP,Bool.and_self,if_true,h,Option.map_some]
@[go_sem] theorem APf (l:List (List UInt8)):IA (l.map BR)=true:=CX VO l
@[go_sem] theorem APg (l:List (List UInt8)):(l.map BR).all (tyG 65)=true:=all_map VP l
theorem AMi {l:List (List UInt8)} {i:Nat} (h:i<l.length):(l.map BR)[i]?=some (BR l[i]):=by simp[h]
theorem Qz {h:List V} {id:Nat} {l x:List UInt8} (hh:h[id]?=some (BA .own l)) (hx:x.length=32) (hl:l.length≤2000000000):Cl 126 [DF id,BR x] h=some (.tup [],h.set id (BA .own (l++x))):=by
 have hid:=Qd hh
 have h1:(h++[BR x])[id]?=some (BA .own l):=ABj _ hh
 have ht:=fun(K:V×List V→Rv)=>OY (h:=h++[BR x]) (id:=id) (f:= .own) (l:=l) h1 K
 rw[AHi,DF]
 simp(disch:=first|assumption|omega|(with_reducible rfl)|(simp only[go_sem];done)|(simp only[go_sem];omega)|fail) only[↓reduceIte,↓AO,Nat.reduceAdd,go_sem]
 refine(ht _).trans ?_
 have hs:∀v w:V,(h++[BR x]).set id v=h.set id v++[BR x]:=fun v w=>AIP _ _ hid
 have hc:Ac ((h++[BR x]).set id (BA .sh l)) (.win h.length [] 0 32 5)=some (bytesOf x):=by
  rw[hs _ (V.bool true)]
  have:(h.set id (BA .sh l)++[BR x])[h.length]?=some (BR x):=by
   have:=FY (h.set id (BA .sh l)) (BR x)
   rwa [List.length_set]at this
  simp only[Ac,rd]
  rw[this]
  simp[V.at,V.items,BR]
  rw[List.take_of_length_le (by rw[Af];omega)]
 have ap:Gv 5 (tyI .u8) false ((h++[BR x]).set id (BA .sh l)) (bL .own l) (.win h.length [] 0 32 5)=some (bL .own (l++x)):=by
  rw[bL,APe hc (CP x) (by simp[bytesOf,tyI]) (by rw[Af,Af];omega)]
  rw[AOt,←GV];rfl
 refine(AA ap _).trans ?_
 have hb:((h++[BR x]).set id (BA .sh l))[id]?=some (BA .sh l):=KY _ h1
 refine(AA (AL5 (i:=0) hb (by simp) rfl rfl 172) _).trans ?_
 rw[List.set_set,hs _ (.bool true)]
 show some (V.tup [],List.take h.length (h.set id _++[BR x]))=_
 rw[take_set];rfl
theorem Xz (a:V):Cl 68 [] [a]=some (DF 1,[a,BA .nil []]):=Gy [a]
theorem IZ {a:V} {f:Fl} {l:List UInt8} {x:Int} (hf:OK f) (h0:0≤x) (h1:x<18446744073709551616) (hl:l.length≤2000000000):Cl 69 [DF 1,.int .u64 x] [a,BA f l]=some (.tup [],[a,BA .own (l++BG x.toNat)]):=by
 have:=Dn (h:=[a,BA f l]) (id:=1) (n:=x.toNat) rfl hf (by omega) (by omega)
 rw[show((x.toNat:Nat):Int)=x by omega]at this
 exact this
theorem AC4 {a:V} {l x:List UInt8} (hx:x.length=32) (hl:l.length≤2000000000):Cl 126 [DF 1,BR x] [a,BA .own l]=some (.tup [],[a,BA .own (l++x)]):=Qz (h:=[a,BA .own l]) (id:=1) rfl hx hl
theorem ZU {a b:V} {l x:List UInt8} (hx:x.length=32) (hl:l.length≤2000000000):Cl 126 [DF 1,BR x] [a,BA .own l,b]=some (.tup [],[a,BA .own (l++x),b]):=Qz (h:=[a,BA .own l,b]) (id:=1) rfl hx hl
theorem UA {a:V} {f:Fl} {l:List UInt8}:Cl 71 [DF 1] [a,BA f l]=some (.str l,[a,BA f l]):=Fh (h:=[a,BA f l]) (id:=1) rfl
@[go_sem] theorem AN1 (n:Nat):V.norm (DF n)=DF n:=(rfl)
@[go_sem] theorem AMj {n m:Nat} (h:n<m):V.under m (DF n)=true:=TQ h ..
theorem Q7:OK .own:=Or.inl rfl
theorem AFa:OK .nil:=Or.inr rfl
@[go_sem] theorem APh (n:Nat):V.norm (rIn n)=rIn n:=(rfl)
@[go_sem] theorem AN2 {n m:Nat} (h:n<m):V.under m (rIn n)=true:=TQ h ..
@[go_sem] theorem ARy (s:List UInt8) (e:Nat):(vIn s e).pl=true:=(rfl)
section
variable {a b c:V} {s:List UInt8} {e:Nat}
end
@[go_sem] theorem ATM {s:List UInt8} (h:1≤s.length) (k:IntKind):slT (.str s) (some (.int k 1)) none=some (.str (s.drop 1)):=AL7 h k
end
section
open Go AM
def VS:List (List UInt8):=[[109,97,120],[108,97,98,101,108],[115,115,115,112],[98,102,115],[100,101,103,114,101,101],[114,97,110,107],[119,97,108,107,115]]
def Fj (t:List UInt8):Bool:=VS.any fun s=>decide (t=s)
theorem AJI (t:List UInt8) {ls:List (List UInt8)} (hl:ls.length<1000000) (f:Fl):∀(m i:Nat),i+m=ls.length→
 OD (.lst 9 f (ls.map .str)) (.str t) (.int .i64 (ls.length:Int)) (.int .i64 (i:Int))=some (.int .i64 (MH (fun s=>decide (t=s)) i (ls.drop i)),[]):=by
 intro m
 induction m with
 |zero=>
  intro i hi
  rw[List.drop_eq_nil_of_le (by omega),QF]
  simp(disch:=first|assumption|omega|(with_reducible rfl)|(simp only[go_sem];done)|(simp only[go_sem];omega)|fail) only[↓reduceIte,↓AO,Nat.reduceAdd,go_sem,MH]
 |succ m ih=>
  intro i hi
  have h:i<ls.length:=by omega
  have:=ih (i+1) (by omega)
  have ha:(ls.map V.str)[i]?=some (.str ls[i]):=by simp[h]
  rw[List.drop_eq_getElem_cons h,MH,QF]
  by_cases ho:t=ls[i]
  ·rw[if_pos (decide_eq_true ho)]
   simp(disch:=first|assumption|omega|(with_reducible rfl)|(simp only[go_sem];done)|(simp only[go_sem];omega)|fail) only[↓reduceIte,↓AO,Nat.reduceAdd,go_sem,ha]
  ·rw[if_neg (by simp[ho]),←this]
   simp(disch:=first|assumption|omega|(with_reducible rfl)|(simp only[go_sem];done)|(simp only[go_sem];omega)|fail) only[↓reduceIte,↓AO,Nat.reduceAdd,go_sem,ha]
theorem Kw (t:List UInt8):Cl 103 [.str t] []=some (.bool (Fj t),[]):=by
 have h:=AJI t (ls:=VS) (by decide) .sh VS.length 0 (by omega)
 simp only[c0,List.drop_zero]at h
 have h2:Cl 159 [.lst 9 .sh (VS.map .str),.str t] []=some (.bool (Fj t),[]):=by
  have ix:Cl 192 [.lst 9 .sh (VS.map .str),.str t] []=some (.int .i64 (MH (fun s=>decide (t=s)) 0 VS),[]):=by
   rw[←h,AID]
   simp(disch:=first|assumption|omega|(with_reducible rfl)|(simp only[go_sem];done)|(simp only[go_sem];omega)|fail) only[↓reduceIte,↓AO,Nat.reduceAdd,go_sem]
  rw[Fj,←AB5 _ VS 0,AHt]
  simp(disch:=first|assumption|omega|(with_reducible rfl)|(simp only[go_sem];done)|(simp only[go_sem];omega)|fail) only[↓reduceIte,↓AO,Nat.reduceAdd,go_sem,ix]
 simp only[VS,List.map_cons,List.map_nil]at h2
 rw[AHT]
 simp(disch:=first|assumption|omega|(with_reducible rfl)|(simp only[go_sem];done)|(simp only[go_sem];omega)|fail) only[↓reduceIte,↓AO,Nat.reduceAdd,go_sem,h2]
theorem AC5 (t:List UInt8):Cl 96 [.str t] []=some (.bool (Fj t),[]):=by
 rw[ALq]
 repeat' first|rfl|refine ZO (fun _=> ?_) (fun _=> ?_)|refine ZP (fun _=> ?_) (fun _=> ?_)|simp(disch:=first|assumption|omega|(with_reducible rfl)|(simp only[go_sem];done)|(simp only[go_sem];omega)|fail) only[↓reduceIte,↓AO,Nat.reduceAdd,go_sem]
 all_goals simp_all [Fj,VS]
structure Job where
 tag:List UInt8
 src:Int
 steps:Int
abbrev vJ (j:Job):V:= .agg 25 [.str j.tag,.int .i64 j.src,.int .i64 j.steps]
def EX (g:Grf) (j:Job):Bool:=decide (FB g=0∧Fj j.tag=true∧0≤j.src∧j.src<g.n∧1≤j.steps∧j.steps≤64)
theorem UB {g:Grf} (hl:g.es.length<1000000) (j:Job):Cl 41 [vG .sh g,vJ j] []=some (.int .i64 (if EX g j=true then 0 else 70),[]):=by
 have hg:=Tz hl
 rw[ALb]
 repeat' first|rfl|refine ZO (fun _=> ?_) (fun _=> ?_)|refine ZP (fun _=> ?_) (fun _=> ?_)|simp(disch:=first|assumption|omega|(with_reducible rfl)|(simp only[go_sem];done)|(simp only[go_sem];omega)|fail) only[↓reduceIte,↓AO,Nat.reduceAdd,go_sem,hg,Kw]
 all_goals (rw[EX];simp_all)
 all_goals omega
def firstX (j:Job) (v:Int):Vtx:=
 if Fj j.tag=true then⟨v,if j.tag=[109,97,120]then(37*v+11).tmod 64 else if j.tag=[108,97,98,101,108]then v else if j.tag=[115,115,115,112]∨j.tag=[98,102,115]then(if v=j.src then 0 else -1)else if j.tag=[114,97,110,107]then 65536 else if j.tag=[119,97,108,107,115]then 1 else 0,true,false,0⟩else⟨0,0,false,false,0⟩
theorem APi (a:Int):AL .rem (.int .i64 a) (.int .i64 64)=some (.int .i64 (a.tmod 64)):=KX _ _ _ (by omega)
theorem AFb (j:Job) {v:Int} (h1:0≤v) (h2:v<1000):Cl 44 [vJ j,.int .i64 v] []=some (Ci (firstX j v),[]):=by
 rw[ALd]
 repeat' first|rfl|refine ZO (fun _=> ?_) (fun _=> ?_)|refine ZP (fun _=> ?_) (fun _=> ?_)|simp(disch:=first|assumption|omega|(with_reducible rfl)|(simp only[go_sem];done)|(simp only[go_sem];omega)|fail) only[↓reduceIte,↓AO,Nat.reduceAdd,go_sem,Kw,APi]
 all_goals simp_all [firstX,Ci]
end
section
open Go AM
def DU (n:Int):Bool:=decide (1125899906842624<n)||decide (n< -1125899906842624)
theorem Ia (n:Int):Cl 175 [.int .i64 n] []=some (.bool (DU n),[]):=by
 rw[AH3,DU]
 by_cases h:1125899906842624<n
 ·simp(disch:=first|assumption|omega|(with_reducible rfl)|(simp only[go_sem];done)|(simp only[go_sem];omega)|fail) only[↓reduceIte,↓AO,Nat.reduceAdd,go_sem]
  rw[decide_eq_true h];rfl
 ·simp(disch:=first|assumption|omega|(with_reducible rfl)|(simp only[go_sem];done)|(simp only[go_sem];omega)|fail) only[↓reduceIte,↓AO,Nat.reduceAdd,go_sem]
  rw[decide_eq_false h];rfl
def IB (x:Vtx):Bool:= !(decide (x.id<0)||decide (64≤x.id)||DU x.val||DU x.inn||(!x.has&&decide (x.inn≠0)))
theorem AC6 (x:Vtx):Cl 128 [Ci x] []=some (.int .i64 (if IB x=true then 0 else 100),[]):=by
 by_cases h1:x.id<0
 ·rw[show(if IB x=true then(0:Int)else 100)=100 from if_neg (by simp[IB,h1])]
  rw[Hl]
  simp only[Ci]
  simp(disch:=first|assumption|omega|(with_reducible rfl)|(simp only[go_sem];done)|(simp only[go_sem];omega)|fail) only[↓reduceIte,↓AO,Nat.reduceAdd,go_sem]
 by_cases h2:64≤x.id
 ·rw[show(if IB x=true then(0:Int)else 100)=100 from if_neg (by simp[IB,h2])]
  rw[Hl]
  simp only[Ci]
  simp(disch:=first|assumption|omega|(with_reducible rfl)|(simp only[go_sem];done)|(simp only[go_sem];omega)|fail) only[↓reduceIte,↓AO,Nat.reduceAdd,go_sem]
 by_cases h3:DU x.val=true
 ·rw[show(if IB x=true then(0:Int)else 100)=100 from if_neg (by simp[IB,h3])]
  rw[Hl]
  simp only[Ci]
  simp(disch:=first|assumption|omega|(with_reducible rfl)|(simp only[go_sem];done)|(simp only[go_sem];omega)|fail) only[↓reduceIte,↓AO,Nat.reduceAdd,go_sem,Ia,h3]
 by_cases h4:DU x.inn=true
 ·rw[show(if IB x=true then(0:Int)else 100)=100 from if_neg (by simp[IB,h4])]
  rw[Hl]
  simp only[Ci]
  simp(disch:=first|assumption|omega|(with_reducible rfl)|(simp only[go_sem];done)|(simp only[go_sem];omega)|fail) only[↓reduceIte,↓AO,Nat.reduceAdd,go_sem,Ia,h3,h4]
 simp only[Bool.not_eq_true]at h3 h4
 cases h5:x.has
 ·by_cases h6:x.inn=0
  ·rw[show(if IB x=true then(0:Int)else 100)=0 from if_pos (by simp only[IB,h3,h4,h5,h6,decide_eq_false h1,decide_eq_false h2];rfl)]
   rw[Hl]
   simp only[Ci]
   simp(disch:=first|assumption|omega|(with_reducible rfl)|(simp only[go_sem];done)|(simp only[go_sem];omega)|fail) only[↓reduceIte,↓AO,Nat.reduceAdd,go_sem,Ia,h3,h4,h5]
  ·rw[show(if IB x=true then(0:Int)else 100)=100 from if_neg (by simp[IB,h5,h6])]
   rw[Hl]
   simp only[Ci]
   simp(disch:=first|assumption|omega|(with_reducible rfl)|(simp only[go_sem];done)|(simp only[go_sem];omega)|fail) only[↓reduceIte,↓AO,Nat.reduceAdd,go_sem,Ia,h3,h4,h5]
 ·rw[show(if IB x=true then(0:Int)else 100)=0 from if_pos (by simp[IB,h1,h2,h3,h4,h5])]
  rw[Hl]
  simp only[Ci]
  simp(disch:=first|assumption|omega|(with_reducible rfl)|(simp only[go_sem];done)|(simp only[go_sem];omega)|fail) only[↓reduceIte,↓AO,Nat.reduceAdd,go_sem,Ia,h3,h4,h5]
def Nk (b:Bool):Nat:=if b=true then 1 else 0
theorem AMk (b:Bool):Cl 130 [.bool b] []=some (.int .u64 (Nk b:Int),[]):=by
 rw[AHl]
 cases b<;>rfl
def vtxB (x:Vtx):List UInt8:=if IB x=true then BG x.id.toNat++BG (Xn x.val)++BG (Nk x.act)++BG (Nk x.has)++BG (Xn x.inn)else[]
theorem X0 {a:V} {f:Fl} {l:List UInt8} {n:Int} (hf:OK f) (h1:I64 n) (hl:l.length≤2000000000):Cl 129 [DF 1,.int .i64 n] [a,BA f l]=some (.tup [],[a,BA .own (l++BG (Xn n))]):=Tm (h:=[a,BA f l]) (id:=1) rfl hf h1.1 h1.2 (by omega)
theorem AB9 (b:Bool):(Nk b:Int)<18446744073709551616:=by cases b<;>decide
theorem X3 (x:Vtx):(vtxB x).length≤50:=by
 have a:=Ap 10 x.id.toNat;have b:=Ap 10 (Xn x.val);have c:=Ap 10 (Xn x.inn)
 have d:=Ap 10 (Nk x.act);have e:=Ap 10 (Nk x.has)
 simp only[vtxB];split
 ·simp only[List.length_append,BG];omega
 ·simp
theorem AJJ {x:Vtx} (hx:JI x):Cl 62 [Ci x] []=some (.str (vtxB x),[]):=by
 obtain⟨x1,x2,x3⟩:=hx
 have hc:=AC6 x
 by_cases h:IB x=true
 ·have h0:0≤x.id:=by simp only[IB,Bool.not_eq_true',Bool.or_eq_false_iff,decide_eq_false_iff_not]at h;omega
  have hlt:x.id<18446744073709551616:=by have:=x1.2;omega
  rw[if_pos h]at hc
  rw[vtxB,if_pos h,AEQ]
  have a:=Ap 10 x.id.toNat;have b:=Ap 10 (Xn x.val);have c:=Ap 10 (Xn x.inn)
  have d:=Ap 10 (Nk x.act);have e:=Ap 10 (Nk x.has)
  generalize ha:BG x.id.toNat=n1
  generalize hb:BG (Xn x.val)=n2
  generalize hd:BG (Nk x.act)=n3
  generalize he:BG (Nk x.has)=n4
  have s1:∀w:V,Cl 69 [DF 1,.int .u64 x.id] [w,BA .nil []]=_:=fun w=>IZ (a:=w) (f:= .nil) (l:=[]) AFa h0 hlt (by simp)
  rw[ha,List.nil_append]at s1
  have t1:n1.length≤10:=ha▸a
  have s2:∀w:V,Cl 129 [DF 1,.int .i64 x.val] [w,BA .own n1]=_:=fun w=>X0 (a:=w) Q7 x2 (by omega)
  rw[hb]at s2
  have t2:n2.length≤10:=hb▸b
  have s3:∀w:V,Cl 69 [DF 1,.int .u64 (Nk x.act:Int)] [w,BA .own (n1++n2)]=_:=fun w=>IZ (a:=w) Q7 (by omega) (AB9 _) (by simp only[List.length_append];omega)
  rw[Int.toNat_natCast,hd]at s3
  have t3:n3.length≤10:=hd▸d
  have s4:∀w:V,Cl 69 [DF 1,.int .u64 (Nk x.has:Int)] [w,BA .own (n1++n2++n3)]=_:=fun w=>IZ (a:=w) Q7 (by omega) (AB9 _) (by simp only[List.length_append];omega)
  rw[Int.toNat_natCast,he]at s4
  have t4:n4.length≤10:=he▸e
  have s5:∀w:V,Cl 129 [DF 1,.int .i64 x.inn] [w,BA .own (n1++n2++n3++n4)]=_:=fun w=>X0 (a:=w) Q7 x3 (by simp only[List.length_append];omega)
  have hb1:∀b,Cl 130 [.bool b] []=_:=AMk
  simp only[List.append_assoc]at s3 s4 s5⊢
  simp only[Ci]at hc⊢
  simp(disch:=first|assumption|omega|(with_reducible rfl)|(simp only[go_sem];done)|(simp only[go_sem];omega)|fail) only[↓reduceIte,↓AO,Nat.reduceAdd,go_sem,hc,Xz,s1,s2,s3,s4,s5,hb1,UA]
 ·rw[if_neg h]at hc
  rw[vtxB,if_neg h,AEQ]
  simp only[Ci]at hc⊢
  simp(disch:=first|assumption|omega|(with_reducible rfl)|(simp only[go_sem];done)|(simp only[go_sem];omega)|fail) only[↓reduceIte,↓AO,Nat.reduceAdd,go_sem,hc]
abbrev AFc (n:Nat):V:= .win 0 [] 0 n 9
abbrev AC7 (d:List (List UInt8)):V:= .row 9 (d.map V.str)
theorem AC8 (n:Nat) (f:Fl) (l:List Vtx):V.under n (.lst 86 f (l.map Ci))=true:=by
 have:=(V.PF (.agg 0 (l.map Ci)) (ABt l)).under n
 cases f<;>first|rfl|exact this
theorem AFd {l:List Vtx} (hl:∀x∈l,JI x) (hn:l.length≤1000000) (f:Fl):∀(n i:Nat) (d:List (List UInt8)),i+n=l.length→d.length=l.length→
 Ur (AFc l.length) (.lst 86 f (l.map Ci)) (.int .i64 (l.length:Int)) (.int .i64 (i:Int)) [AC7 d]=some (.lst 9 .sh ((d.take i++(l.drop i).map vtxB).map V.str),[]):=by
 intro n
 induction n with
 |zero=>
  intro i d hi hd
  have e1:l.drop i=[]:=List.drop_eq_nil_of_le (by omega)
  rw[e1,List.map_nil,List.append_nil,List.take_of_length_le (by omega),TF]
  have c:Ac [AC7 d] (AFc l.length)=some (d.map V.str):=by
   simp only[Ac,rd,List.getElem?_cons_zero,Option.bind_some,V.at,V.items,List.drop_zero]
   simp only[V.items,Option.map_some,Option.bind_some]
   rw[←hd];exact congrArg some (List.take_of_length_le (by simp))
  have fin:AP 0 [AC7 d] (AFc l.length)=some (.lst 9 .sh (d.map V.str),[]):=by
   have cl:AU (d.map V.str)=true:=by
    clear c hd;induction d with
    |nil=>rfl
    |cons x t ih=>simp only[List.map_cons,AU,ih];rfl
   have nl:AQ (d.map V.str)=d.map V.str:=by
    clear c hd cl;induction d with
    |nil=>rfl
    |cons x t ih=>simp only[List.map_cons,AQ,ih];rfl
   simp only[AP,V.unmut,c,cl,nl,if_true]
   rfl
  simp(disch:=first|assumption|omega|(with_reducible rfl)|(simp only[go_sem];done)|(simp only[go_sem];omega)|fail) only[↓reduceIte,↓AO,Nat.reduceAdd,go_sem,fin]
 |succ n ih=>
  intro i d hi hd
  have h:i<l.length:=by omega
  have hx:=hl _ (List.getElem_mem h)
  have hr:=AJJ hx
  have:=ih (i+1) (d.set i (vtxB l[i])) (by omega) (by simp[hd])
  have e:(d.set i (vtxB l[i])).take (i+1)++(l.drop (i+1)).map vtxB=d.take i++(l.drop i).map vtxB:=by
   rw[List.drop_eq_getElem_cons h,List.map_cons,List.take_add_one,List.take_set_of_le (by omega),List.getElem?_set_self (by omega)]
   simp
  rw[e]at this
  rw[←this,TF]
  have ix:Eg 9 (V.weak (AFc l.length)) (.int .i64 (i:Int))=some (.ref 0 [i] 9):=by
   simp only[V.weak,Eg,inside]
   simp;omega
  have hu:=AC8 1 f l
  rw[AC7,AC7,List.map_set]
  simp(disch:=first|assumption|omega|(with_reducible rfl)|(simp only[go_sem];done)|(simp only[go_sem];omega)|fail) only[↓reduceIte,↓AO,Nat.reduceAdd,go_sem,APQ h,hr,ix,hu]
theorem X4 {l:List Vtx} (hl:∀x∈l,JI x) (hn:l.length≤1000000) (f:Fl):Cl 64 [.lst 86 f (l.map Ci)] []=some (.lst 9 .sh ((l.map vtxB).map V.str),[]):=by
 have h:=AFd hl hn f l.length 0 (List.replicate l.length []) (by omega) (by simp)
 rw[List.take_zero,List.nil_append,List.drop_zero]at h
 simp only[c0]at h
 have mk:mkL 9 (.str []) (.int .i64 (l.length:Int)) (.int .i64 (l.length:Int))=some (.lst 9 .own (List.replicate l.length (.str []))):=by
  simp only[mkL]
  rw[if_pos ⟨by omega,by omega,by omega⟩];rfl
 have tb:DN [] (.lst 9 .own (List.replicate l.length (.str [])))=some (AFc l.length,[AC7 (List.replicate l.length [])]):=by
  simp[DN]
 rw[←h,ALi]
 simp(disch:=first|assumption|omega|(with_reducible rfl)|(simp only[go_sem];done)|(simp only[go_sem];omega)|fail) only[↓reduceIte,↓AO,Nat.reduceAdd,go_sem,mk,tb]
theorem AMl (l:List Vtx):Short (l.map vtxB):=by
 intro s hs
 obtain⟨x,_,rfl⟩:=List.mem_map.1 hs
 have:=X3 x;omega
def vrootB (l:List Vtx):List UInt8:=AFZ (l.map vtxB)
theorem AFe {l:List Vtx} (hl:∀x∈l,JI x) (hn:l.length≤1000000) (f:Fl):Cl 83 [.lst 86 f (l.map Ci)] []=some (BR (vrootB l),[]):=by
 have h:=X4 hl hn
 rw[ALn,MI]
 simp(disch:=first|assumption|omega|(with_reducible rfl)|(simp only[go_sem];done)|(simp only[go_sem];omega)|fail) only[↓reduceIte,↓AO,Nat.reduceAdd,go_sem,h,AB8 (l:=l.map vtxB) (by simp;omega) (AMl l)]
 rfl
end
section
open Go AM
theorem G8 (n:Int):Cl 116 [.int .i64 n] []=some (.bool (DU n),[]):=by
 rw[AHY,DU]
 by_cases h:1125899906842624<n
 ·simp(disch:=first|assumption|omega|(with_reducible rfl)|(simp only[go_sem];done)|(simp only[go_sem];omega)|fail) only[↓reduceIte,↓AO,Nat.reduceAdd,go_sem]
  rw[decide_eq_true h];rfl
 ·simp(disch:=first|assumption|omega|(with_reducible rfl)|(simp only[go_sem];done)|(simp only[go_sem];omega)|fail) only[↓reduceIte,↓AO,Nat.reduceAdd,go_sem]
  rw[decide_eq_false h];rfl
theorem VT {n:Int} (h:DU n=false): -1125899906842624≤n∧n≤1125899906842624:=by
 simp only[DU,Bool.or_eq_false_iff,decide_eq_false_iff_not]at h;omega
def H7 (t:List UInt8) (a b:Int):Int:=if t=[109,97,120]then(if b>a then b else a)else if t=[108,97,98,101,108]∨t=[115,115,115,112]∨t=[98,102,115]then(if b<a then b else a)else a+b
def GY (t:List UInt8) (a b:Int):Int×Int:=if Fj t=false then(0,70)else if DU a||DU b then(0,71)else if DU (H7 t a b)then(0,71)else(H7 t a b,0)
theorem ACA (t:List UInt8) (a b:Int):Cl 115 [.str t,.int .i64 a,.int .i64 b] []=some (.tup [.int .i64 (GY t a b).1,.int .i64 (GY t a b).2],[]):=by
 have kn:=Kw t
 have ga:=G8 a
 have gb:=G8 b
 have nt:un .not (.bool true)=some (.bool false):=rfl
 have nf:un .not (.bool false)=some (.bool true):=rfl
 have rj1:∀h,AB h [V.str t]=[V.str t]:=fun _=>rfl
 have rj2:∀h (z:Int),AB h [V.int .i64 z]=[V.int .i64 z]:=fun _ _=>rfl
 cases hk:Fj t with
 |false=>
  rw[hk]at kn
  rw[GY,if_pos hk,GR]
  (repeat' with_reducible first|refine(Ag _ _).trans ?_|refine(Aj _ _).trans ?_|refine(AO _ _).trans ?_|((first|(refine' (AA ?_ _).trans ?_;rotate_left)|refine(if_pos ?_).trans ?_|refine(BU ?_ _ _).trans ?_);focus (first|rfl|(simp(disch:=first|assumption|omega|with_reducible rfl|(simp only[go_sem]<;>omega)|fail) only[↓reduceIte,↓AO,Nat.reduceAdd,go_sem,Bool.not_true,Bool.not_false,rj1,kn,nf]<;>first|rfl|omega)|assumption|omega))|(refine(BF ?_ _ _).trans ?_;focus (first|(simp(disch:=first|assumption|omega|with_reducible rfl|(simp only[go_sem]<;>omega)|fail) only[↓reduceIte,↓AO,Nat.reduceAdd,go_sem,Bool.not_true,Bool.not_false,rj1,kn,nf]<;>omega)|assumption|omega))|fail)
  rfl
 |true=>
 rw[hk]at kn
 rw[GY,if_neg (by rw[hk];simp)]
 cases h1:DU a with
 |true=>
  rw[h1]at ga
  rw[Bool.true_or,if_pos rfl,GR]
  (repeat' with_reducible first|refine(Ag _ _).trans ?_|refine(Aj _ _).trans ?_|refine(AO _ _).trans ?_|((first|(refine' (AA ?_ _).trans ?_;rotate_left)|refine(if_pos ?_).trans ?_|refine(BU ?_ _ _).trans ?_);focus (first|rfl|(simp(disch:=first|assumption|omega|with_reducible rfl|(simp only[go_sem]<;>omega)|fail) only[↓reduceIte,↓AO,Nat.reduceAdd,go_sem,Bool.not_true,Bool.not_false,rj1,kn,nt,rj2,ga]<;>first|rfl|omega)|assumption|omega))|(refine(BF ?_ _ _).trans ?_;focus (first|(simp(disch:=first|assumption|omega|with_reducible rfl|(simp only[go_sem]<;>omega)|fail) only[↓reduceIte,↓AO,Nat.reduceAdd,go_sem,Bool.not_true,Bool.not_false,rj1,kn,nt,rj2,ga]<;>omega)|assumption|omega))|fail)
  rfl
 |false=>
 rw[h1]at ga
 cases h2:DU b with
 |true=>
  rw[h2]at gb
  rw[Bool.false_or,if_pos rfl,GR]
  (repeat' with_reducible first|refine(Ag _ _).trans ?_|refine(Aj _ _).trans ?_|refine(AO _ _).trans ?_|((first|(refine' (AA ?_ _).trans ?_;rotate_left)|refine(if_pos ?_).trans ?_|refine(BU ?_ _ _).trans ?_);focus (first|rfl|(simp(disch:=first|assumption|omega|with_reducible rfl|(simp only[go_sem]<;>omega)|fail) only[↓reduceIte,↓AO,Nat.reduceAdd,go_sem,Bool.not_true,Bool.not_false,rj1,kn,nt,rj2,ga,gb]<;>first|rfl|omega)|assumption|omega))|(refine(BF ?_ _ _).trans ?_;focus (first|(simp(disch:=first|assumption|omega|with_reducible rfl|(simp only[go_sem]<;>omega)|fail) only[↓reduceIte,↓AO,Nat.reduceAdd,go_sem,Bool.not_true,Bool.not_false,rj1,kn,nt,rj2,ga,gb]<;>omega)|assumption|omega))|fail)
  rfl
 |false=>
 rw[h2]at gb
 rw[Bool.false_or,if_neg (by simp)]
 have r1:=VT h1
 have r2:=VT h2
 have ad:AL .add (.int .i64 a) (.int .i64 b)=some (.int .i64 (a+b)):=by rw[DT,wrap_i64 (by omega) (by omega)]
 have mx:Vx (.int .i64 a) (.int .i64 b)=some (.int .i64 (if b>a then b else a)):=by simp only[Vx,if_true]
 have mn:Ud (.int .i64 a) (.int .i64 b)=some (.int .i64 (if b<a then b else a)):=by simp only[Ud,if_true]
 have fin:∀z:Int,(Cl 116 (AB [] [.int .i64 z]) []).bind (fun r=>V.ite r.1
  (if(List.all [(V.int .i64 71),(V.int .i64 0)] V.okE)=true then AP 0 [] (V.tup [(V.int .i64 0),(V.int .i64 71)])else none)
  (if(List.all [(V.int .i64 0),(V.int .i64 z)] V.okE)=true then AP 0 [] (V.tup [(V.int .i64 z),(V.int .i64 0)])else none))=
  some (.tup [.int .i64 (if DU z then((0:Int),(71:Int))else(z,0)).1,.int .i64 (if DU z then((0:Int),(71:Int))else(z,0)).2],[]):=fun z=>by
  refine(AA (show Cl 116 (AB [] [.int .i64 z]) []=_ from G8 z) _).trans ?_
  cases DU z<;>rfl
 have es:∀l:List UInt8,AL .eql (.str t) (.str l)=some (.bool (decide (t=l))):=fun l=>by
  simp only[AL]
  congr 2
  exact Bool.eq_iff_iff.2 (by simp)
 have e1:=es [109,97,120]
 have e2:=es [108,97,98,101,108]
 have e3:=es [115,115,115,112]
 have e4:=es [98,102,115]
 by_cases c1:t=[109,97,120]
 ·rw[decide_eq_true c1]at e1
  have hf:H7 t a b=if b>a then b else a:=by rw[H7,if_pos c1]
  rw[hf,←fin,GR]
  generalize (if b>a then b else a)=z at*
  clear fin es
  (repeat' with_reducible first|refine(Ag _ _).trans ?_|refine(Aj _ _).trans ?_|refine(AO _ _).trans ?_|((first|(refine' (AA ?_ _).trans ?_;rotate_left)|refine(if_pos ?_).trans ?_|refine(BU ?_ _ _).trans ?_);focus (first|rfl|(simp(disch:=first|assumption|omega|with_reducible rfl|(simp only[go_sem]<;>omega)|fail) only[↓reduceIte,↓AO,Nat.reduceAdd,go_sem,Bool.not_true,Bool.not_false,rj1,kn,nt,rj2,ga,gb,ad,e1,mx]<;>first|rfl|omega)|assumption|omega))|(refine(BF ?_ _ _).trans ?_;focus (first|(simp(disch:=first|assumption|omega|with_reducible rfl|(simp only[go_sem]<;>omega)|fail) only[↓reduceIte,↓AO,Nat.reduceAdd,go_sem,Bool.not_true,Bool.not_false,rj1,kn,nt,rj2,ga,gb,ad,e1,mx]<;>omega)|assumption|omega))|fail)
  rfl
 rw[decide_eq_false c1]at e1
 by_cases c2:t=[108,97,98,101,108]
 ·rw[decide_eq_true c2]at e2
  have hf:H7 t a b=if b<a then b else a:=by rw[H7,if_neg c1,if_pos (Or.inl c2)]
  rw[hf,←fin,GR]
  generalize (if b<a then b else a)=z at*
  clear fin es
  (repeat' with_reducible first|refine(Ag _ _).trans ?_|refine(Aj _ _).trans ?_|refine(AO _ _).trans ?_|((first|(refine' (AA ?_ _).trans ?_;rotate_left)|refine(if_pos ?_).trans ?_|refine(BU ?_ _ _).trans ?_);focus (first|rfl|(simp(disch:=first|assumption|omega|with_reducible rfl|(simp only[go_sem]<;>omega)|fail) only[↓reduceIte,↓AO,Nat.reduceAdd,go_sem,Bool.not_true,Bool.not_false,rj1,kn,nt,rj2,ga,gb,ad,e1,e2,mn]<;>first|rfl|omega)|assumption|omega))|(refine(BF ?_ _ _).trans ?_;focus (first|(simp(disch:=first|assumption|omega|with_reducible rfl|(simp only[go_sem]<;>omega)|fail) only[↓reduceIte,↓AO,Nat.reduceAdd,go_sem,Bool.not_true,Bool.not_false,rj1,kn,nt,rj2,ga,gb,ad,e1,e2,mn]<;>omega)|assumption|omega))|fail)
  rfl
 rw[decide_eq_false c2]at e2
 by_cases c3:t=[115,115,115,112]
 ·rw[decide_eq_true c3]at e3
  have hf:H7 t a b=if b<a then b else a:=by rw[H7,if_neg c1,if_pos (Or.inr (Or.inl c3))]
  rw[hf,←fin,GR]
  generalize (if b<a then b else a)=z at*
  clear fin es
  (repeat' with_reducible first|refine(Ag _ _).trans ?_|refine(Aj _ _).trans ?_|refine(AO _ _).trans ?_|((first|(refine' (AA ?_ _).trans ?_;rotate_left)|refine(if_pos ?_).trans ?_|refine(BU ?_ _ _).trans ?_);focus (first|rfl|(simp(disch:=first|assumption|omega|with_reducible rfl|(simp only[go_sem]<;>omega)|fail) only[↓reduceIte,↓AO,Nat.reduceAdd,go_sem,Bool.not_true,Bool.not_false,rj1,kn,nt,rj2,ga,gb,ad,e1,e2,e3,mn]<;>first|rfl|omega)|assumption|omega))|(refine(BF ?_ _ _).trans ?_;focus (first|(simp(disch:=first|assumption|omega|with_reducible rfl|(simp only[go_sem]<;>omega)|fail) only[↓reduceIte,↓AO,Nat.reduceAdd,go_sem,Bool.not_true,Bool.not_false,rj1,kn,nt,rj2,ga,gb,ad,e1,e2,e3,mn]<;>omega)|assumption|omega))|fail)
  rfl
 rw[decide_eq_false c3]at e3
 by_cases c4:t=[98,102,115]
 ·rw[decide_eq_true c4]at e4
  have hf:H7 t a b=if b<a then b else a:=by rw[H7,if_neg c1,if_pos (Or.inr (Or.inr c4))]
  rw[hf,←fin,GR]
  generalize (if b<a then b else a)=z at*
  clear fin es
  (repeat' with_reducible first|refine(Ag _ _).trans ?_|refine(Aj _ _).trans ?_|refine(AO _ _).trans ?_|((first|(refine' (AA ?_ _).trans ?_;rotate_left)|refine(if_pos ?_).trans ?_|refine(BU ?_ _ _).trans ?_);focus (first|rfl|(simp(disch:=first|assumption|omega|with_reducible rfl|(simp only[go_sem]<;>omega)|fail) only[↓reduceIte,↓AO,Nat.reduceAdd,go_sem,Bool.not_true,Bool.not_false,rj1,kn,nt,rj2,ga,gb,ad,e1,e2,e3,e4,mn]<;>first|rfl|omega)|assumption|omega))|(refine(BF ?_ _ _).trans ?_;focus (first|(simp(disch:=first|assumption|omega|with_reducible rfl|(simp only[go_sem]<;>omega)|fail) only[↓reduceIte,↓AO,Nat.reduceAdd,go_sem,Bool.not_true,Bool.not_false,rj1,kn,nt,rj2,ga,gb,ad,e1,e2,e3,e4,mn]<;>omega)|assumption|omega))|fail)
  rfl
 rw[decide_eq_false c4]at e4
 have hf:H7 t a b=a+b:=by rw[H7,if_neg c1,if_neg (by rintro (h|h|h)<;>contradiction)]
 rw[hf,←fin,GR]
 generalize a+b=z at*
 clear fin es
 (repeat' with_reducible first|refine(Ag _ _).trans ?_|refine(Aj _ _).trans ?_|refine(AO _ _).trans ?_|((first|(refine' (AA ?_ _).trans ?_;rotate_left)|refine(if_pos ?_).trans ?_|refine(BU ?_ _ _).trans ?_);focus (first|rfl|(simp(disch:=first|assumption|omega|with_reducible rfl|(simp only[go_sem]<;>omega)|fail) only[↓reduceIte,↓AO,Nat.reduceAdd,go_sem,Bool.not_true,Bool.not_false,rj1,kn,nt,rj2,ga,gb,ad,e1,e2,e3,e4]<;>first|rfl|omega)|assumption|omega))|(refine(BF ?_ _ _).trans ?_;focus (first|(simp(disch:=first|assumption|omega|with_reducible rfl|(simp only[go_sem]<;>omega)|fail) only[↓reduceIte,↓AO,Nat.reduceAdd,go_sem,Bool.not_true,Bool.not_false,rj1,kn,nt,rj2,ga,gb,ad,e1,e2,e3,e4]<;>omega)|assumption|omega))|fail)
 rfl
def FC (t:List UInt8):Int×Int→List Int→Int×Int
 |q,[]=>q
 |q,x::l=>if q.2=0 then FC t (GY t q.1 x) l else q
def ACB (t:List UInt8):List Int→Int×Bool×Int
 |[]=>(0,false,0)
 |x::l=>let q:=FC t (GY [109,97,120] x x) l;if q.2=0 then(q.1,true,0)else(0,false,q.2)
def GZ (t:List UInt8) (l:List Msg) (v:Int):Int×Bool×Int:=if Fj t=false then(0,false,70)else ACB t ((CQ (l.filter fun m=>decide (m.to=v))).map (·.val))
theorem X5 {t:List UInt8} {a b:Int} (h:(GY t a b).2=0): -1125899906842624≤(GY t a b).1∧(GY t a b).1≤1125899906842624:=by
 unfold GY at*
 split at h
 ·cases h
 ·rename_i h1;rw[if_neg h1]
  split at h
  ·cases h
  ·rename_i h2;rw[if_neg h2]
   split at h
   ·cases h
   ·rename_i h3;rw[if_neg h3];exact VT (by simpa using h3)
theorem X6 {t:List UInt8}:∀{l:List Int} {q:Int×Int},(q.2=0→ -1125899906842624≤q.1∧q.1≤1125899906842624)→(FC t q l).2=0→ -1125899906842624≤(FC t q l).1∧(FC t q l).1≤1125899906842624
 |[],q,hq,h=>hq h
 |x::l,q,hq,h=>by
  rw[FC]at h⊢
  split at h
  ·rename_i h1;rw[if_pos h1];exact X6 (fun h=>X5 h) h
  ·rename_i h1;exact absurd h h1
theorem AFf (t:List UInt8) (l:List Msg) (v:Int): -1125899906842624≤(GZ t l v).1∧(GZ t l v).1≤1125899906842624:=by
 unfold GZ
 split
 ·simp
 ·generalize (CQ (l.filter fun m=>decide (m.to=v))).map (·.val)=xs
  cases xs with
  |nil=>simp[ACB]
  |cons x xs=>
   simp only[ACB]
   split
   ·rename_i h;exact X6 (fun h=>X5 h) h
   ·simp
theorem AJK (t:List UInt8) {l:List Msg} (hl:l.length≤1000000) {fl:Fl}:∀(m i:Nat) (q:Int×Int),i+m=l.length→
 Uk (.str t) (.int .i64 q.1) (.int .i64 q.2) (Bl .sh l) (.int .i64 (l.length:Int)) (.int .i64 (i:Int)) []=
  some (.tup [.int .i64 (if(FC t q ((l.drop i).map (·.val))).2=0 then((FC t q ((l.drop i).map (·.val))).1,true,(0:Int))else(0,false,(FC t q ((l.drop i).map (·.val))).2)).1,
   .bool (if(FC t q ((l.drop i).map (·.val))).2=0 then((FC t q ((l.drop i).map (·.val))).1,true,(0:Int))else(0,false,(FC t q ((l.drop i).map (·.val))).2)).2.1,
   .int .i64 (if(FC t q ((l.drop i).map (·.val))).2=0 then((FC t q ((l.drop i).map (·.val))).1,true,(0:Int))else(0,false,(FC t q ((l.drop i).map (·.val))).2)).2.2],[]):=by
 intro m
 induction m with
 |zero=>
  intro i q hi
  obtain⟨a,e⟩:=q
  have ls:AL .lss (.int .i64 (i:Int)) (.int .i64 (l.length:Int))=some (.bool false):=by rw[b_lss,decide_eq_false (by omega)]
  rw[List.drop_eq_nil_of_le (by omega),List.map_nil,FC,Lp]
  generalize (l.length:Int)=ll at*
  generalize Bl .sh l=L at*
  by_cases he:e=0
  ·have ne:AL .neq (.int .i64 e) (.int .i64 0)=some (.bool false):=by rw[b_neq];simp[he]
   simp only[he,if_true]
   rw[he]at ne
   (repeat' with_reducible first|refine(Ag _ _).trans ?_|refine(Aj _ _).trans ?_|refine(AO _ _).trans ?_|((first|(refine' (AA ?_ _).trans ?_;rotate_left)|refine(if_pos ?_).trans ?_|refine(BU ?_ _ _).trans ?_);focus (first|rfl|(simp(disch:=first|assumption|omega|with_reducible rfl|(simp only[go_sem]<;>omega)|fail) only[↓reduceIte,↓AO,Nat.reduceAdd,go_sem,Bool.not_true,Bool.not_false,ls,ne]<;>first|rfl|omega)|assumption|omega))|(refine(BF ?_ _ _).trans ?_;focus (first|(simp(disch:=first|assumption|omega|with_reducible rfl|(simp only[go_sem]<;>omega)|fail) only[↓reduceIte,↓AO,Nat.reduceAdd,go_sem,Bool.not_true,Bool.not_false,ls,ne]<;>omega)|assumption|omega))|fail)
   rfl
  ·have ne:AL .neq (.int .i64 e) (.int .i64 0)=some (.bool true):=by rw[b_neq];simp[he]
   simp only[he,if_false]
   (repeat' with_reducible first|refine(Ag _ _).trans ?_|refine(Aj _ _).trans ?_|refine(AO _ _).trans ?_|((first|(refine' (AA ?_ _).trans ?_;rotate_left)|refine(if_pos ?_).trans ?_|refine(BU ?_ _ _).trans ?_);focus (first|rfl|(simp(disch:=first|assumption|omega|with_reducible rfl|(simp only[go_sem]<;>omega)|fail) only[↓reduceIte,↓AO,Nat.reduceAdd,go_sem,Bool.not_true,Bool.not_false,ls,ne]<;>first|rfl|omega)|assumption|omega))|(refine(BF ?_ _ _).trans ?_;focus (first|(simp(disch:=first|assumption|omega|with_reducible rfl|(simp only[go_sem]<;>omega)|fail) only[↓reduceIte,↓AO,Nat.reduceAdd,go_sem,Bool.not_true,Bool.not_false,ls,ne]<;>omega)|assumption|omega))|fail)
   rfl
 |succ m ih=>
  intro i q hi
  have h:i<l.length:=by omega
  obtain⟨a,e⟩:=q
  have ls:AL .lss (.int .i64 (i:Int)) (.int .i64 (l.length:Int))=some (.bool true):=by rw[b_lss,decide_eq_true (by omega)]
  have ix:Eg 152 (Bl .sh l) (.int .i64 (i:Int))=some (.rop 152 (Aa l[i])):=by
   rw[Bl,EQ,List.getElem?_map,List.getElem?_eq_getElem h];rfl
  have l1:AV [] 152 (.rop 152 (Aa l[i]))=some (Aa l[i]):=En
  have ad:AL .add (.int .i64 (i:Int)) (.int .i64 1)=some (.int .i64 ((i+1:Nat):Int)):=by rw[DT,wrap_i64 (by omega) (by omega)];rfl
  have st:∀ms:Msg,CY (tyG 151) 152 ([]++[zMs]) (.ref ([]:List V).length [] 152) (Aa ms)=some [Aa ms]:=fun ms=>rfl
  rw[List.drop_eq_getElem_cons h,List.map_cons,FC]
  by_cases he:e=0
  ·have ne:AL .neq (.int .i64 e) (.int .i64 0)=some (.bool false):=by rw[b_neq];simp[he]
   have fo:=ACA t a l[i].val
   have ld:∀ms:Msg,AV [Aa ms] 2 (.ref 0 [2] 2)=some (.int .i64 ms.val):=fun ms=>rfl
   have rj:∀(h:List V) (a b:Int),AB h [.str t,.int .i64 a,.int .i64 b]=[.str t,.int .i64 a,.int .i64 b]:=fun _ _ _=>rfl
   have ul:∀(n:Nat) (a b c z:Int),AZ n [.str t,.int .i64 a,.int .i64 b,Bl .sh l,.int .i64 c,.int .i64 z]=true:=fun _ _ _ _ _=>rfl
   rw[if_pos he,←ih (i+1) (GY t a l[i].val) (by omega),Lp]
   clear ih
   subst he
   generalize GY t a l[i].val=q2 at*
   generalize l[i]=ms at*
   generalize (i+1:Nat)=i2 at*
   generalize (l.length:Int)=ll at*
   generalize Bl .sh l=L at*
   refine(AA ls _).trans ?_
   refine(Ag _ _).trans ?_
   refine(AA ix _).trans ?_
   refine(AA l1 _).trans ?_
   refine(AA (st ms) _).trans ?_
   refine(AA ne _).trans ?_
   refine(Aj _ _).trans ?_
   refine(AA (show _=some (V.ref 0 [2] 2)from rfl) _).trans ?_
   refine(AA (ld ms) _).trans ?_
   refine(AA (show _=some _ from fo) _).trans ?_
   refine(AA (show _=some (V.int .i64 q2.1)from rfl) _).trans ?_
   refine(AA (show _=some (V.int .i64 q2.2)from rfl) _).trans ?_
   refine(AA ad _).trans ?_
   exact if_pos (ul _ _ _ _ _)
  ·have ne:AL .neq (.int .i64 e) (.int .i64 0)=some (.bool true):=by rw[b_neq];simp[he]
   simp only[he,if_false]
   rw[Lp]
   clear ih
   generalize l[i]=ms at*
   generalize (i+1:Nat)=i2 at*
   generalize (l.length:Int)=ll at*
   generalize Bl .sh l=L at*
   refine(AA ls _).trans ?_
   refine(Ag _ _).trans ?_
   refine(AA ix _).trans ?_
   refine(AA l1 _).trans ?_
   refine(AA (st ms) _).trans ?_
   refine(AA ne _).trans ?_
   refine(Ag _ _).trans ?_
   refine(AA ne _).trans ?_
   refine(Ag _ _).trans ?_
   rfl
theorem ACC (t:List UInt8) {l:List Msg} (hl:l.length≤1000000) (v:Int) {fl:Fl} (hfl:fl= .sh∨fl= .nil∨fl= .own):
 Cl 55 [.str t,Bl fl l,.int .i64 v] []=some (.tup [.int .i64 (GZ t l v).1,.bool (GZ t l v).2.1,.int .i64 (GZ t l v).2.2],[]):=by
 have kn:=Kw t
 have nt:un .not (.bool true)=some (.bool false):=rfl
 have nf:un .not (.bool false)=some (.bool true):=rfl
 have rj1:∀h,AB h [V.str t]=[V.str t]:=fun _=>rfl
 cases hk:Fj t with
 |false=>
  rw[hk]at kn
  rw[GZ,if_pos hk,AEE]
  generalize Bl fl l=L
  (repeat' with_reducible first|refine(Ag _ _).trans ?_|refine(Aj _ _).trans ?_|refine(AO _ _).trans ?_|((first|(refine' (AA ?_ _).trans ?_;rotate_left)|refine(if_pos ?_).trans ?_|refine(BU ?_ _ _).trans ?_);focus (first|rfl|(simp(disch:=first|assumption|omega|with_reducible rfl|(simp only[go_sem]<;>omega)|fail) only[↓reduceIte,↓AO,Nat.reduceAdd,go_sem,Bool.not_true,Bool.not_false,rj1,kn,nf]<;>first|rfl|omega)|assumption|omega))|(refine(BF ?_ _ _).trans ?_;focus (first|(simp(disch:=first|assumption|omega|with_reducible rfl|(simp only[go_sem]<;>omega)|fail) only[↓reduceIte,↓AO,Nat.reduceAdd,go_sem,Bool.not_true,Bool.not_false,rj1,kn,nf]<;>omega)|assumption|omega))|fail)
  rfl
 |true=>
 rw[hk]at kn
 rw[GZ,if_neg (by rw[hk];simp),AEE]
 have to:=AKq hl v (fl:= .sh) (.inl rfl)
 have ton:=AKq hl v (fl:= .nil) (.inr (.inl rfl))
 have hlen:(CQ (l.filter fun m=>decide (m.to=v))).length≤1000000:=by
  rw[CQ,List.length_mergeSort]
  have:=List.length_filter_le (fun m:Msg=>decide (m.to=v)) l
  omega
 generalize hs:CQ (l.filter fun m=>decide (m.to=v))=s at*
 have to':∀h,Cl 114 (AB h [Bl fl l,.int .i64 v]) []=some (Bl .sh s,[]):=fun h=>by
  rcases hfl with rfl|rfl|rfl
  ·exact to
  ·exact to
  ·exact to
 refine(AA (show _=some (V.bool true,[])from kn) _).trans ?_
 refine(AA nt _).trans ?_
 refine(Aj _ _).trans ?_
 refine(AA (to' _) _).trans ?_
 cases s with
 |nil=>rfl
 |cons m s=>
  have e0:AL .eql (.int .i64 (((m::s).map Aa).length:Int)) (.int .i64 0)=some (.bool false):=by rw[b_eql];simp;omega
  have fo:=ACA [109,97,120] m.val m.val
  have lp:=AJK t (l:=s) (by simp at hlen;omega) (fl:= .sh) s.length 0 (GY [109,97,120] m.val m.val) (by omega)
  rw[List.drop_zero]at lp
  have sl:slL 152 (Bl .sh (m::s)) (some (.int .i64 1)) none none=some (Bl .sh s):=by
   have hb:Bd (m::s).length (some (.int .i64 1)) none none=some (1,(m::s).length):=by
    simp only[Bd,List.length_cons]
    simp
    omega
   simp only[slL,Bl,List.length_map,hb]
   simp
   exact⟨rfl,List.take_of_length_le (by simp)⟩
  have ix0:Eg 152 (V.weak (Bl .sh (m::s))) (.int .i64 0)=some (.rop 152 (Aa m)):=(EQ 152 .sh ((m::s).map Aa) .i64 0).trans rfl
  have fv:fA 152 2 2 (.rop 152 (Aa m))=some (.rop 2 (.int .i64 m.val)):=rfl
  have lv:AV [] 2 (.rop 2 (.int .i64 m.val))=some (.int .i64 m.val):=rfl
  have l0:E5 (Bl .sh s)=some (.int .i64 (s.length:Int)):=by show some _=_;rw[List.length_map]
  simp only[List.map_cons,ACB]
  rw[←lp]
  clear lp
  generalize GY [109,97,120] m.val m.val=q at*
  refine(AA (show _=some (V.int .i64 (((m::s).map Aa).length:Int))from rfl) _).trans ?_
  refine(AA e0 _).trans ?_
  refine(Aj _ _).trans ?_
  refine(AA ix0 _).trans ?_
  refine(AA fv _).trans ?_
  refine(AA lv _).trans ?_
  refine(AA ix0 _).trans ?_
  refine(AA fv _).trans ?_
  refine(AA lv _).trans ?_
  refine(AA (show _=some _ from fo) _).trans ?_
  refine(AA (show _=some (V.int .i64 q.1)from rfl) _).trans ?_
  refine(AA (show _=some (V.int .i64 q.2)from rfl) _).trans ?_
  refine(AA sl _).trans ?_
  exact AA l0 _
end
section
open Go AM
theorem VU (n:Int):I64 (IntKind.wrap .i64 n):=by
 simp only[I64,IntKind.wrap,IntKind.bits,IntKind.signed]
 have:=Int.emod_nonneg n (show(18446744073709551616:Int)≠0 by decide)
 have:=Int.emod_lt_of_pos n (show(0:Int)<18446744073709551616 by decide)
 simp
 split<;>omega
theorem AJL (a b:Int) (hb:b≠0):∃q,I64 q∧Cl 171 [.int .i64 a,.int .i64 b] []=some (.int .i64 q,[]):=by
 have q:=XT .i64 a b hb
 have r:=KX .i64 a b hb
 have s:=KW .i64 (IntKind.wrap .i64 (a.tdiv b)) 1
 rw[AHz]
 by_cases h:a.tmod b<0
 ·have ls:AL .lss (.int .i64 (a.tmod b)) (.int .i64 0)=some (.bool true):=by rw[b_lss,decide_eq_true h]
  refine⟨IntKind.wrap .i64 (IntKind.wrap .i64 (a.tdiv b)-1),VU _,?_⟩
  refine(AA q _).trans ?_
  refine(AA r _).trans ?_
  refine(AA ls _).trans ?_
  refine(Ag _ _).trans ?_
  exact AA s _
 ·have ls:AL .lss (.int .i64 (a.tmod b)) (.int .i64 0)=some (.bool false):=by rw[b_lss,decide_eq_false h]
  refine⟨_,VU (a.tdiv b),?_⟩
  refine(AA q _).trans ?_
  refine(AA r _).trans ?_
  refine(AA ls _).trans ?_
  exact Aj _ _
def Q4 (H:List V) (K:Rv):Prop:=∃(v:Int) (a s:Bool) (w:Int),I64 v∧I64 w∧K=some (.tup [.int .i64 v,.bool a,.bool s,.int .i64 w],H)
theorem Q4.bind {A:Type} {H:List V} {o:Option A} {x:A} (h:o=some x) {K:A→Rv} (q:Q4 H (K x)):Q4 H (o.bind K):=by rw[h];exact q
theorem Q4.ite {H:List V} {c:Bool} {a b:Rv} (h1:Q4 H a) (h2:Q4 H b):Q4 H (V.ite (.bool c) a b):=by cases c<;>assumption
theorem Q4.leaf {v w:Int} (hv:I64 v) (hw:I64 w) (a s:Bool) (n:Nat) (H:List V):Q4 (H.take n) (if(List.all [.int .i64 w,.bool s,.bool a,.int .i64 v] V.okE)=true then AP n H (V.tup [.int .i64 v,.bool a,.bool s,.int .i64 w])else none):=⟨v,a,s,w,hv,hw,rfl⟩
section
variable {j:Job} {at_:Int} {x:Vtx} {c:Bool}
abbrev hSt (j:Job) (at_:Int) (x:Vtx) (c:Bool):List V:=[vJ j,.int .i64 at_,Ci x,.bool c]
theorem AC9 (hx:I64 x.val) (hi:I64 x.inn) (b:Bool):Q4 (hSt j at_ x c) (Cl 170 [.bool b,.ref 1 [] 3,.ref 2 [] 86,.ref 3 [] 4] (hSt j at_ x c)):=by
 rw[AHy]
 have e:=b_eql .i64 at_ 0
 refine Q4.bind (show AV (hSt j at_ x c) 3 (.ref 1 [] 3)=some (.int .i64 at_)from rfl) ?_
 refine Q4.bind e ?_
 refine Q4.ite ?_ ?_
 ·exact Q4.leaf hx hx false true 4 (hSt j at_ x c)
 ·rw[AO]
  cases c<;>cases b
  ·exact Q4.leaf hx (by simp[I64]) false false 4 _
  ·exact Q4.leaf hx (by simp[I64]) false false 4 _
  ·exact Q4.leaf hx (by simp[I64]) false false 4 _
  ·exact Q4.leaf hi hi false true 4 _
theorem Q4.call (hx:I64 x.val) (hi:I64 x.inn) (b:Bool) {H:List V} {K:V→List V→Rv} (h:∀v a s w,I64 v→I64 w→Q4 H (K (.tup [.int .i64 v,.bool a,.bool s,.int .i64 w]) (hSt j at_ x c))):
 Q4 H (BI P CJ W (.clo 170 [.ref 1 [] 3,.ref 2 [] 86,.ref 3 [] 4]) [.bool b] (hSt j at_ x c) K):=by
 obtain⟨v,a,s,w,hv,hw,e⟩:=AC9 (j:=j) (at_:=at_) (c:=c) hx hi b
 rw[(Gw K (by kernel_rfl) (by kernel_rfl)).trans (AA e _)]
 exact h v a s w hv hw
theorem Q4.down {H h:List V} {a b:Int} (hb:b≠0) {K:V×List V→Rv} (q:∀z,I64 z→Q4 H (K (.int .i64 z,[]))):Q4 H ((Cl 171 (AB h [.int .i64 a,.int .i64 b]) []).bind K):=by
 obtain⟨z,hz,e⟩:=AJL a b hb
 exact Q4.bind (show Cl 171 (AB h [.int .i64 a,.int .i64 b]) []=_ from e) (q z hz)
theorem Q4.iff {H:List V} {c:Bool} (h:c=true) {K:Rv} (q:Q4 H K):Q4 H (if c=true then K else none):=by rw[if_pos h];exact q
theorem Q4.jn {H:List V} {A:Type} {f:A} {g:A→Rv} (q:Q4 H (g f)):Q4 H (jn f g):=q
set_option maxHeartbeats 4000000 in
theorem AFg (hx:I64 x.val) (hi:I64 x.inn) {n:Int} (hn:0≤n):Q4 [] (Cl 118 [vJ j,.int .i64 at_,Ci x,.int .i64 n] []):=by
 have w0:∀z:Int,I64 (IntKind.wrap .i64 z):=VU
 have i0:I64 0:=by simp[I64]
 have i1:I64 1:=by simp[I64]
 have hm:(if 1>n then 1 else n)≠0:=by split<;>omega
 have h100:(100:Int)≠0:=by decide
 rw[AHa]
 unfold AAL AAM AAN AAO AAP AAQ AAR AAS AAT AAU Ox Oy Oz O0 O3 O4 O5 O6 O7 O8 O9 PD PE PL PG PI PK
 refine Q4.iff rfl ?_
 refine Q4.iff rfl ?_
 refine Q4.iff rfl ?_
 repeat' first
  |exact Q4.leaf (by first|assumption|exact w0 _) (by first|assumption|exact w0 _) _ _ 0 _
  |refine Q4.ite ?_ ?_
  |refine Q4.call (j:=j) (at_:=at_) (x:=x) hx hi _ (fun v a s w hv hw=> ?_)
  |refine Q4.down (by first|assumption) (fun z hz=> ?_)
  |refine Q4.jn ?_
  |refine Q4.iff rfl ?_
  |refine Q4.bind rfl ?_
end
end
section
open Go AM
abbrev kEd (e:E0):Int×Int:=(e.fr,e.to)
def kLt (a b:E0):Prop:=a.fr<b.fr∨a.fr=b.fr∧a.to<b.to
def InB (e:E0):Prop:=0≤e.fr∧e.fr<64∧0≤e.to∧e.to<64
def toE (e:E0):Ed.Edg:=⟨e.fr.toNat%64,e.to.toNat%64,e.w,Nat.mod_lt _ (by omega),Nat.mod_lt _ (by omega)⟩
def ofE (x:Ed.Edg):E0:=⟨(x.fr:Int),(x.to:Int),x.w⟩
theorem AMm {e:E0} (h:InB e):ofE (toE e)=e:=by
 obtain⟨a,b,c⟩:=e
 simp only[InB]at h
 simp only[ofE,toE,E0.mk.injEq,and_true]
 omega
theorem ACD {es:List E0} (h:∀e∈es,InB e):(es.map toE).map ofE=es:=by
 rw[List.map_map]
 conv=>rhs;rw[←List.map_id es]
 exact List.map_congr_left fun e he=>AMm (h e he)
theorem APj {es:List E0} (h:∀e∈es,InB e):(es.map toE).map Ed.vEdg=es.map D7:=by
 conv=>rhs;rw[←ACD h]
 rw[List.map_map,List.map_map,List.map_map];rfl
def MK (es:List E0):List E0:=(Be (es.map toE)).map ofE
theorem AMn (es:List E0):(MK es).map D7=(Be (es.map toE)).map Ed.vEdg:=by
 rw[MK,List.map_map];rfl
theorem UC {es:List E0} (h:∀e∈es,InB e):(MK es).Perm es:=by
 have:=(J5 (es.map toE)).map ofE
 rwa [ACD h]at this
theorem X7 (es:List E0):(MK es).length=es.length:=by simp[MK,JM]
theorem X8 {es:List E0} (h:∀e∈es,InB e) (hn:(es.map kEd).Nodup):(MK es).Pairwise kLt:=by
 have hp:=UC h
 have h1:=Kv (es.map toE)
 have h2:((MK es).map kEd).Nodup:=((hp.map kEd).nodup_iff).2 hn
 rw[MK,List.map_map,List.nodup_iff_pairwise_ne,List.pairwise_map]at h2
 rw[MK,List.pairwise_map]
 refine(h1.and h2).imp fun{a b} hab=> ?_
 have hk:JX a≠JX b:=hab.2
 have:=NS hab.1 hk
 rw[Ed.ltE_iff]at this
 simp only[kLt,ofE]
 omega
theorem VW {g:Grf} (h:FB g=0):(1≤g.n∧g.n≤64)∧g.es.length≤512∧g.es.any (E8 g.n)=false∧(g.es.map kEd).Nodup:=by
 rw[FB]at h
 split at h
 ·rename_i hc
  split at h
  ·rename_i hn;exact⟨⟨hc.1,hc.2.1⟩,hc.2.2.1,hc.2.2.2,hn⟩
  ·cases h
 ·cases h
theorem AMo {n:Int} {e:E0} (h:E8 n e=false):0≤e.fr∧e.fr<n∧0≤e.to∧e.to<n∧0≤e.w∧e.w≤1048576:=by
 simp only[E8,Bool.or_eq_false_iff,decide_eq_false_iff_not]at h;omega
theorem AJN {n:Int} {es:List E0} (h:es.any (E8 n)=false):∀e∈es,0≤e.fr∧e.fr<n∧0≤e.to∧e.to<n∧0≤e.w∧e.w≤1048576:=by
 intro e he
 rw[List.any_eq_false]at h
 exact AMo (by simpa using h e he)
theorem VX {g:Grf} (h:FB g=0):∀e∈g.es,InB e:=by
 obtain⟨⟨_,h1⟩,_,h2,_⟩:=VW h
 intro e he
 have:=AJN h2 e he
 simp only[InB];omega
theorem AMp {g:Grf} (h:FB g=0):(MK g.es).Perm g.es∧(MK g.es).Pairwise kLt:=⟨UC (VX h),X8 (VX h) (VW h).2.2.2⟩
def FD (g:Grf):Grf:=if FB g=0 then⟨g.n,MK g.es⟩else⟨0,[]⟩
end
section
open Go AM
theorem X9 {f:FuncId} {id:Nat} {p:List Nat} {t:TypeId} {cs vs h h':List V} {v r:V} (he:CJ.ext f=false) (hp:CJ.pure f=false) (hh:h[id]?=some v) (haw:Bo id (h.set id void)=true)
 (hx:V.away id (.clo f cs)=true) (hv:Bo id vs=true) (hr:r.away id=true) (ha2:Bo id h'=true) (hlt:id<h'.length) (e:Cl f (AQ (vs++cs)) (h.set id void)=some (r,h')) (k:V→List V→Rv) (hs:(CJ.seq f).1=0:=by kernel_rfl):
 Dk P CJ W (some (.ref id p t)) (.clo f cs) vs h k=k r (h'.set id v):=by
 simp only[Dk,hh,haw,hv,hx]
 rw[if_pos (show(true&&true&&true)=true from rfl),Gw _ he hp hs]
 refine(AA e _).trans ?_
 rw[if_pos (by rw[hr,ha2];simp only[Bool.true_and];exact Nat.ble_eq_true_of_le hlt)]
theorem ZV (a b:V) (l:List Ed.Edg):Cl 157 [FN .sh l] [a,b]=some (.clo 191 [.ref 2 [] 22],[a,b,FN .sh l]):=by
 rw[AAy]
 simp(disch:=first|assumption|omega|(with_reducible rfl)|(simp only[go_sem];done)|(simp only[go_sem];omega)|fail) only[↓reduceIte,↓AO,Nat.reduceAdd,go_sem]
 rfl
theorem YA (a b:V) {l:List Ed.Edg} (hl:l.length≤1000000):Cl 189 [.clo 191 [.ref 2 [] 22]] [a,b,FN .sh l]=some (Ed.winM 3 l.length,[a,b,FN .sh l,Ed.rowM l.toArray]):=by
 rw[ABN]
 have ap:Yt 191 96 [.lst 96 .nil [],.clo 191 [.ref 2 [] 22]] [a,b,FN .sh l]=some (Ed.winM 3 l.length,[a,b,FN .sh l,Ed.rowM l.toArray]):=by
  simp only[Yt,List.getElem?_cons_succ,List.getElem?_cons_zero,AFV,List.length_map]
  rw[if_pos (by simp[Dp,Nat.ble_eq];omega)]
  simp[Ed.winM,Ed.rowM]
 rw[ap];rfl
theorem YB (a b:V) {l:List Ed.Edg} (hl:l.length≤1000000):Cl 156 [.clo 191 [.ref 2 [] 22],Ed.cm] [a,b,FN .sh l]=some (FN .sh (Be l),[a,b,FN .sh l]):=by
 have c:=YA a b hl
 have s:Yt 1000158 96 [Ed.winM 3 l.length,Ed.cm] [a,b,FN .sh l,Ed.rowM l.toArray]=some (.tup [],[a,b,FN .sh l,Ed.rowM (Be l).toArray]):=Ed.sort_aps rfl hl
 have ct:Ac [a,b,FN .sh l,Ed.rowM (Be l).toArray] (Ed.winM 3 l.length)=some ((Be l).map Ed.vEdg):=by
  simp[Ac,Ed.winM,rd,V.at,V.items,Ed.rowM]
  rw[←JM l];exact List.take_of_length_le (by simp)
 have cl:AU ((Be l).map Ed.vEdg)=true:=L8 (CX (fun _=>rfl) _)
 have nl:AQ ((Be l).map Ed.vEdg)=(Be l).map Ed.vEdg:=KZ (CX (fun _=>rfl) _)
 have fin:AP 3 [a,b,FN .sh l,Ed.rowM (Be l).toArray] (Ed.winM 3 l.length)=some (FN .sh (Be l),[a,b,FN .sh l]):=by
  have u:(Ed.winM 3 l.length).unmut [a,b,FN .sh l,Ed.rowM (Be l).toArray]=FN .sh (Be l):=by
   rw[Ed.winM]at ct⊢
   simp only[V.unmut,ct,cl,nl,if_true]
  simp only[AP,u];rfl
 rw[AAx]
 refine(AA c _).trans ?_
 refine(AA s _).trans ?_
 exact fin
abbrev zG:V:= .agg 23 [.int .i64 0,.lst 96 .nil []]
theorem AJO {g:Grf} (hl:g.es.length<1000000):Cl 193 [vG .sh g] []=some (.tup [vG .sh (FD g),.int .i64 (FB g)],[]):=by
 have ck:=Tz hl
 by_cases hc:FB g=0
 ·have hin:=VX hc
  have hv:=APj hin
  have hsv:=AMn g.es
  rw[hc]at ck⊢
  rw[FD,if_pos hc]
  simp only[vG,hsv,←hv]at ck⊢
  have hlt:(g.es.map toE).length≤1000000:=by simp;omega
  generalize g.es.map toE=l at*
  have c1:∀(x:V) (k:V→List V→Rv),x.away 0=true→Dk P CJ W (some (.ref 0 [] 24)) (.clo 157 []) [FN .sh l] [x,zG] k=k (.clo 191 [.ref 2 [] 22]) [x,zG,FN .sh l]:=by
   intro x k hx
   exact X9 (h:=[x,zG]) (h':=[void,zG,FN .sh l]) (r:= .clo 191 [.ref 2 [] 22]) (id:=0) (by kernel_rfl) (by kernel_rfl) (v:=x) rfl rfl rfl rfl rfl rfl (Nat.zero_lt_succ _) (by rw[List.append_nil,KZ (show IA [FN .sh l]=true by simp only[IA,V.pl,AB6];rfl)];exact ZV void zG l) k
  have c2:∀(x:V) (k:V→List V→Rv),x.away 0=true→Dk P CJ W (some (.ref 0 [] 24)) (.clo 156 []) [.clo 191 [.ref 2 [] 22],Ed.cm] [x,zG,FN .sh l] k=k (FN .sh (Be l)) [x,zG,FN .sh l]:=by
   intro x k hx
   exact X9 (h:=[x,zG,FN .sh l]) (h':=[void,zG,FN .sh l]) (r:=FN .sh (Be l)) (id:=0) (by kernel_rfl) (by kernel_rfl) (v:=x) rfl rfl rfl rfl ((V.PF _ (show(FN .sh (Be l)).pl=true by simp only[V.pl,AB6])).away 0) rfl (Nat.zero_lt_succ _) (YB void zG hlt) k
  generalize Be l=s at*
  rw[ABO]
  have sb:Dv (.ref 0 [] 24) (.ref 0 [0] 3)=true:=rfl
  (repeat' with_reducible first|refine(Ag _ _).trans ?_|refine(Aj _ _).trans ?_|refine(AO _ _).trans ?_|((first|(refine' (AA ?_ _).trans ?_;rotate_left)|refine(if_pos ?_).trans ?_|refine(BU ?_ _ _).trans ?_);focus (first|rfl|(simp(disch:=first|assumption|omega|with_reducible rfl|(simp only[go_sem]<;>omega)|fail) only[↓reduceIte,↓AO,Nat.reduceAdd,go_sem,Bool.not_true,Bool.not_false,ck,sb]<;>first|rfl|omega)|assumption|omega))|(refine(BF ?_ _ _).trans ?_;focus (first|(simp(disch:=first|assumption|omega|with_reducible rfl|(simp only[go_sem]<;>omega)|fail) only[↓reduceIte,↓AO,Nat.reduceAdd,go_sem,Bool.not_true,Bool.not_false,ck,sb]<;>omega)|assumption|omega))|fail)
  refine(c1 _ _ rfl).trans ?_
  refine(c2 _ _ rfl).trans ?_
  (repeat' with_reducible first|refine(Ag _ _).trans ?_|refine(Aj _ _).trans ?_|refine(AO _ _).trans ?_|((first|(refine' (AA ?_ _).trans ?_;rotate_left)|refine(if_pos ?_).trans ?_|refine(BU ?_ _ _).trans ?_);focus (first|rfl|(simp(disch:=first|assumption|omega|with_reducible rfl|(simp only[go_sem]<;>omega)|fail) only[↓reduceIte,↓AO,Nat.reduceAdd,go_sem,Bool.not_true,Bool.not_false,ck]<;>first|rfl|omega)|assumption|omega))|(refine(BF ?_ _ _).trans ?_;focus (first|(simp(disch:=first|assumption|omega|with_reducible rfl|(simp only[go_sem]<;>omega)|fail) only[↓reduceIte,↓AO,Nat.reduceAdd,go_sem,Bool.not_true,Bool.not_false,ck]<;>omega)|assumption|omega))|fail)
  rfl
 ·rw[FD,if_neg hc,ABO]
  generalize FB g=e at*
  (repeat' with_reducible first|refine(Ag _ _).trans ?_|refine(Aj _ _).trans ?_|refine(AO _ _).trans ?_|((first|(refine' (AA ?_ _).trans ?_;rotate_left)|refine(if_pos ?_).trans ?_|refine(BU ?_ _ _).trans ?_);focus (first|rfl|(simp(disch:=first|assumption|omega|with_reducible rfl|(simp only[go_sem]<;>omega)|fail) only[↓reduceIte,↓AO,Nat.reduceAdd,go_sem,Bool.not_true,Bool.not_false,ck]<;>first|rfl|omega)|assumption|omega))|(refine(BF ?_ _ _).trans ?_;focus (first|(simp(disch:=first|assumption|omega|with_reducible rfl|(simp only[go_sem]<;>omega)|fail) only[↓reduceIte,↓AO,Nat.reduceAdd,go_sem,Bool.not_true,Bool.not_false,ck]<;>omega)|assumption|omega))|fail)
  rfl
end
section
open Go AM
theorem AJP (e:E0) (v:Int) (a c d x:V):Cl 169 [D7 e,.ref 1 [] 3] [a,.int .i64 v,c,d,x]=some (.bool (decide (e.fr=v)),[a,.int .i64 v,c,d,x]):=by
 rw[AHx]
 simp only[D7]
 (repeat' with_reducible first|refine(Ag _ _).trans ?_|refine(Aj _ _).trans ?_|refine(AO _ _).trans ?_|((first|(refine' (AA ?_ _).trans ?_;rotate_left)|refine(if_pos ?_).trans ?_|refine(BU ?_ _ _).trans ?_);focus (first|rfl|(simp(disch:=first|assumption|omega|with_reducible rfl|(simp only[go_sem]<;>omega)|fail) only[↓reduceIte,↓AO,Nat.reduceAdd,go_sem,Bool.not_true,Bool.not_false]<;>first|rfl|omega)|assumption|omega))|(refine(BF ?_ _ _).trans ?_;focus (first|(simp(disch:=first|assumption|omega|with_reducible rfl|(simp only[go_sem]<;>omega)|fail) only[↓reduceIte,↓AO,Nat.reduceAdd,go_sem,Bool.not_true,Bool.not_false]<;>omega)|assumption|omega))|fail)
 rfl
def AFh (F:V) (v:Int) (p:E0→Bool):Prop:=(∀n,2≤n→F.under n=true)∧(∀(e:E0) (a c d x:V) (k:V→List V→Rv),BI P CJ W F [D7 e] [a,.int .i64 v,c,d,x] k=k (.bool (p e)) [a,.int .i64 v,c,d,x])
theorem AR0 (v:Int):AFh (.clo 169 [.ref 1 [] 3]) v (fun e=>decide (e.fr=v)):=
 ⟨fun n h=>by simp only[V.under,AZ,Bool.and_true];exact decide_eq_true (by omega),fun e a c d x k=>MG k (by kernel_rfl) (by kernel_rfl) (AJP e v a c d x)⟩
theorem YC (p:E0→Bool) {es:List E0} {i:Nat} (h:i<es.length):(es.take (i+1)).filter p=if p es[i]=true then(es.take i).filter p++[es[i]]else(es.take i).filter p:=by
 rw[←List.take_append_getElem h,List.filter_append]
 by_cases hp:p es[i]=true
 ·rw[if_pos hp,List.filter_cons,if_pos hp];rfl
 ·rw[if_neg hp,List.filter_cons,if_neg hp,List.filter_nil,List.append_nil]
theorem AJQ {F:V} {v:Int} {p:E0→Bool} (hF:AFh F v p) {es:List E0} (hl:es.length<1000000) (a c d:V):∀(n i:Nat) (f:Fl),(f= .own∨f= .nil)→i+n=es.length→
 KU F (.lst 96 f (((es.take i).filter p).map D7)) (.lst 96 .sh (es.map D7)) (.int .i64 (es.length:Int)) (.int .i64 (i:Int)) 2 [a,.int .i64 v,c,d]=some (.lst 96 .sh ((es.filter p).map D7),[a,.int .i64 v]):=by
 obtain⟨hu,hc⟩:=hF
 intro n
 induction n with
 |zero=>
  intro i f hf hi
  rw[List.take_of_length_le (by omega),Jy]
  generalize es.filter p=r at*
  rcases hf with rfl|rfl
  all_goals (repeat' with_reducible first|refine(Ag _ _).trans ?_|refine(Aj _ _).trans ?_|refine(AO _ _).trans ?_|((first|(refine' (AA ?_ _).trans ?_;rotate_left)|refine(if_pos ?_).trans ?_|refine(BU ?_ _ _).trans ?_);focus (first|rfl|(simp(disch:=first|assumption|omega|with_reducible rfl|(simp only[go_sem]<;>omega)|fail) only[↓reduceIte,↓AO,Nat.reduceAdd,go_sem,Bool.not_true,Bool.not_false]<;>first|rfl|omega)|assumption|omega))|(refine(BF ?_ _ _).trans ?_;focus (first|(simp(disch:=first|assumption|omega|with_reducible rfl|(simp only[go_sem]<;>omega)|fail) only[↓reduceIte,↓AO,Nat.reduceAdd,go_sem,Bool.not_true,Bool.not_false]<;>omega)|assumption|omega))|fail)
  all_goals rfl
 |succ n ih=>
  intro i f hf hi
  have h:i<es.length:=by omega
  have hx:=Xu h
  have hle:((es.take i).filter p).length≤i:=Nat.le_trans (List.length_filter_le _ _) (by rw[List.length_take];omega)
  have tf:=YC p h
  have hu4:=hu 4 (by omega)
  have hcx:=fun x k=>hc es[i] a c d x k
  by_cases hp:p es[i]=true
  ·have ih':=ih (i+1) .own (Or.inl rfl) (by omega)
   rw[tf,if_pos hp,List.map_append]at ih'
   rw[←ih',Jy]
   clear ih ih' tf
   rw[hp]at hcx
   generalize (es.take i).filter p=done at*
   generalize es[i]=y at*
   rcases hf with rfl|rfl
   all_goals (repeat' with_reducible first|refine(Ag _ _).trans ?_|refine(Aj _ _).trans ?_|refine(AO _ _).trans ?_|((first|(refine' (AA ?_ _).trans ?_;rotate_left)|refine(if_pos ?_).trans ?_|refine(BU ?_ _ _).trans ?_);focus (first|rfl|(simp(disch:=first|assumption|omega|with_reducible rfl|(simp only[go_sem]<;>omega)|fail) only[↓reduceIte,↓AO,Nat.reduceAdd,go_sem,Bool.not_true,Bool.not_false,hx,hu4]<;>first|rfl|omega)|assumption|omega))|(refine(BF ?_ _ _).trans ?_;focus (first|(simp(disch:=first|assumption|omega|with_reducible rfl|(simp only[go_sem]<;>omega)|fail) only[↓reduceIte,↓AO,Nat.reduceAdd,go_sem,Bool.not_true,Bool.not_false,hx,hu4]<;>omega)|assumption|omega))|fail)
   all_goals refine(hcx _ _).trans ?_
   all_goals (repeat' with_reducible first|refine(Ag _ _).trans ?_|refine(Aj _ _).trans ?_|refine(AO _ _).trans ?_|((first|(refine' (AA ?_ _).trans ?_;rotate_left)|refine(if_pos ?_).trans ?_|refine(BU ?_ _ _).trans ?_);focus (first|rfl|(simp(disch:=first|assumption|omega|with_reducible rfl|(simp only[go_sem]<;>omega)|fail) only[↓reduceIte,↓AO,Nat.reduceAdd,go_sem,Bool.not_true,Bool.not_false,hx,hu4]<;>first|rfl|omega)|assumption|omega))|(refine(BF ?_ _ _).trans ?_;focus (first|(simp(disch:=first|assumption|omega|with_reducible rfl|(simp only[go_sem]<;>omega)|fail) only[↓reduceIte,↓AO,Nat.reduceAdd,go_sem,Bool.not_true,Bool.not_false,hx,hu4]<;>omega)|assumption|omega))|fail)
   all_goals rfl
  ·have ih':=ih (i+1) f hf (by omega)
   rw[tf,if_neg hp]at ih'
   rw[←ih',Jy]
   clear ih ih' tf
   rw[Bool.not_eq_true]at hp
   rw[hp]at hcx
   generalize (es.take i).filter p=done at*
   generalize es[i]=y at*
   rcases hf with rfl|rfl
   all_goals (repeat' with_reducible first|refine(Ag _ _).trans ?_|refine(Aj _ _).trans ?_|refine(AO _ _).trans ?_|((first|(refine' (AA ?_ _).trans ?_;rotate_left)|refine(if_pos ?_).trans ?_|refine(BU ?_ _ _).trans ?_);focus (first|rfl|(simp(disch:=first|assumption|omega|with_reducible rfl|(simp only[go_sem]<;>omega)|fail) only[↓reduceIte,↓AO,Nat.reduceAdd,go_sem,Bool.not_true,Bool.not_false,hx,hu4]<;>first|rfl|omega)|assumption|omega))|(refine(BF ?_ _ _).trans ?_;focus (first|(simp(disch:=first|assumption|omega|with_reducible rfl|(simp only[go_sem]<;>omega)|fail) only[↓reduceIte,↓AO,Nat.reduceAdd,go_sem,Bool.not_true,Bool.not_false,hx,hu4]<;>omega)|assumption|omega))|fail)
   all_goals refine(hcx _ _).trans ?_
   all_goals (repeat' with_reducible first|refine(Ag _ _).trans ?_|refine(Aj _ _).trans ?_|refine(AO _ _).trans ?_|((first|(refine' (AA ?_ _).trans ?_;rotate_left)|refine(if_pos ?_).trans ?_|refine(BU ?_ _ _).trans ?_);focus (first|rfl|(simp(disch:=first|assumption|omega|with_reducible rfl|(simp only[go_sem]<;>omega)|fail) only[↓reduceIte,↓AO,Nat.reduceAdd,go_sem,Bool.not_true,Bool.not_false,hx,hu4]<;>first|rfl|omega)|assumption|omega))|(refine(BF ?_ _ _).trans ?_;focus (first|(simp(disch:=first|assumption|omega|with_reducible rfl|(simp only[go_sem]<;>omega)|fail) only[↓reduceIte,↓AO,Nat.reduceAdd,go_sem,Bool.not_true,Bool.not_false,hx,hu4]<;>omega)|assumption|omega))|fail)
   all_goals rfl
theorem ADA (g:Grf):(FD g).es.length≤g.es.length:=by
 rw[FD];split
 ·simp only[X7];exact Nat.le_refl _
 ·exact Nat.zero_le _
theorem AJR {g:Grf} (hl:g.es.length<1000000) {F:V} {v:Int} {p:E0→Bool} (hF:AFh F v p) (a:V):Cl 168 [vG .sh g,F] [a,.int .i64 v]=some (.lst 96 .sh (((FD g).es.filter p).map D7),[a,.int .i64 v]):=by
 have nm:=AJO hl
 have hn:=ADA g
 have h0:=AJQ hF (es:=(FD g).es) (by omega) a (vG .sh g) (vG .sh (FD g)) (FD g).es.length 0 .nil (Or.inr rfl) (by omega)
 rw[List.take_zero,List.filter_nil,List.map_nil]at h0
 rw[←h0,AHw]
 generalize FD g=m at*
 generalize FB g=e at*
 (repeat' with_reducible first|refine(Ag _ _).trans ?_|refine(Aj _ _).trans ?_|refine(AO _ _).trans ?_|((first|(refine' (AA ?_ _).trans ?_;rotate_left)|refine(if_pos ?_).trans ?_|refine(BU ?_ _ _).trans ?_);focus (first|rfl|(simp(disch:=first|assumption|omega|with_reducible rfl|(simp only[go_sem]<;>omega)|fail) only[↓reduceIte,↓AO,Nat.reduceAdd,go_sem,Bool.not_true,Bool.not_false,nm]<;>first|rfl|omega)|assumption|omega))|(refine(BF ?_ _ _).trans ?_;focus (first|(simp(disch:=first|assumption|omega|with_reducible rfl|(simp only[go_sem]<;>omega)|fail) only[↓reduceIte,↓AO,Nat.reduceAdd,go_sem,Bool.not_true,Bool.not_false,nm]<;>omega)|assumption|omega))|fail)
 rfl
theorem AMq {g:Grf} (hl:g.es.length<1000000) (v:Int):Cl 117 [vG .sh g,.int .i64 v] []=some (.lst 96 .sh (((FD g).es.filter fun e=>decide (e.fr=v)).map D7),[]):=by
 have h:=AJR hl (AR0 v) (vG .sh g)
 rw[AHZ]
 (repeat' with_reducible first|refine(Ag _ _).trans ?_|refine(Aj _ _).trans ?_|refine(AO _ _).trans ?_|((first|(refine' (AA ?_ _).trans ?_;rotate_left)|refine(if_pos ?_).trans ?_|refine(BU ?_ _ _).trans ?_);focus (first|rfl|(simp(disch:=first|assumption|omega|with_reducible rfl|(simp only[go_sem]<;>omega)|fail) only[↓reduceIte,↓AO,Nat.reduceAdd,go_sem,Bool.not_true,Bool.not_false,h]<;>first|rfl|omega)|assumption|omega))|(refine(BF ?_ _ _).trans ?_;focus (first|(simp(disch:=first|assumption|omega|with_reducible rfl|(simp only[go_sem]<;>omega)|fail) only[↓reduceIte,↓AO,Nat.reduceAdd,go_sem,Bool.not_true,Bool.not_false,h]<;>omega)|assumption|omega))|fail)
 rfl
end
section
open Go AM
def mxA (v:Nat):Nat:=v*2654435761%4294967296
def mxB (a:Nat):Nat:=a ^^^ (a/32768)
def mxC (b:Nat):Nat:=b*2246822519%4294967296
def mxD (c:Nat):Nat:=c ^^^ (c/8192)
def mixN (v:Nat):Nat:=mxD (mxC (mxB (mxA v)))
theorem AMr (v:Nat):mxA v<4294967296:=Nat.mod_lt _ (by omega)
theorem AMs (v:Nat):mxC v<4294967296:=Nat.mod_lt _ (by omega)
theorem YD {a:Nat} (h:a<4294967296) (k:Nat):a/k<4294967296:=Nat.lt_of_le_of_lt (Nat.div_le_self a k) h
theorem AKt (a c:Nat):AL .mul (.int .u32 (a:Int)) (.int .u32 (c:Int))=some (.int .u32 ((a*c%4294967296:Nat):Int)):=by
 rw[TM,←Int.natCast_mul,Ho]
theorem AKu {a:Nat} (h:a<4294967296) (k:Nat) (hk:k≤32):AL .shr (.int .u32 (a:Int)) (.int .u64 (k:Int))=some (.int .u32 ((a/2^k:Nat):Int)):=by
 have e:(min (k:Int).toNat IntKind.u32.bits)=k:=by simp only[IntKind.bits,Int.toNat_natCast];omega
 have h2:=Nat.div_le_self a (2^k)
 have e2:((2:Int)^k)=((2^k:Nat):Int):=by simp
 rw[XU _ _ _ _ (by omega),e,e2,Int.fdiv_eq_ediv_of_nonneg _ (Int.natCast_nonneg _),←Int.natCast_ediv]
@[go_sem] theorem m1 (a:Nat):AL .mul (.int .u32 (a:Int)) (.int .u32 2654435761)=some (.int .u32 (mxA a:Int)):=AKt a 2654435761
@[go_sem] theorem m2 (a:Nat):AL .mul (.int .u32 (a:Int)) (.int .u32 2246822519)=some (.int .u32 (mxC a:Int)):=AKt a 2246822519
theorem s15 {a:Nat} (h:a<4294967296):AL .shr (.int .u32 (a:Int)) (.int .u64 15)=some (.int .u32 ((a/32768:Nat):Int)):=AKu h 15 (by omega)
theorem s13 {a:Nat} (h:a<4294967296):AL .shr (.int .u32 (a:Int)) (.int .u64 13)=some (.int .u32 ((a/8192:Nat):Int)):=AKu h 13 (by omega)
theorem AMt (v:Nat):Cl 160 [.int .u32 (v:Int)] []=some (.int .u32 (mixN v:Int),[]):=by
 have a1:=AMr v
 have b1:=AMs (mxB (mxA v))
 have x1:AL .xor (.int .u32 (mxA v:Int)) (.int .u32 ((mxA v/32768:Nat):Int))=some (.int .u32 (mxB (mxA v):Int)):=u32_xor a1 (YD a1 _)
 have x2:AL .xor (.int .u32 (mxC (mxB (mxA v)):Int)) (.int .u32 ((mxC (mxB (mxA v))/8192:Nat):Int))=some (.int .u32 (mixN v:Int)):=u32_xor b1 (YD b1 _)
 rw[AHu]
 simp(disch:=first|assumption|omega|(with_reducible rfl)|(simp only[go_sem];done)|(simp only[go_sem];omega)|fail) only[↓reduceIte,↓AO,Nat.reduceAdd,go_sem,s15 a1,x1,s13 b1,x2]
theorem APl {a c:Nat} (h:a*c<18446744073709551616):AL .mul (.int .u64 (a:Int)) (.int .u64 (c:Int))=some (.int .u64 ((a*c:Nat):Int)):=by
 rw[TM,←Int.natCast_mul,wrap_u64 (by omega) (by omega)]
theorem k1 {v:Nat} (h:v<4294967296) (K:V→Rv):((AL .mul (.int .u64 (v:Int)) (.int .u64 2654435761)).bind fun t=>(AL .rem t (.int .u64 4294967296)).bind K)=K (.int .u64 (mxA v:Int)):=
 (AA (APl (a:=v) (c:=2654435761) (by omega)) _).trans (AA (ALx (a:=v*2654435761) (b:=4294967296) (by omega) .u64) _)
theorem k2 {v:Nat} (h:v<4294967296) (K:V→Rv):((AL .mul (.int .u64 (v:Int)) (.int .u64 2246822519)).bind fun t=>(AL .rem t (.int .u64 4294967296)).bind K)=K (.int .u64 (mxC v:Int)):=
 (AA (APl (a:=v) (c:=2246822519) (by omega)) _).trans (AA (ALx (a:=v*2246822519) (b:=4294967296) (by omega) .u64) _)
def ownN (v n:Nat):Nat:=mixN v%n
theorem YE {v n:Nat} (hv:v<1000) (h1:1≤n) (h2:n≤64):Cl 106 [.int .i64 (v:Int),.int .i64 (n:Int)] []=some (.int .i64 (ownN v n:Int),[]):=by
 have hm:=AMt v
 have cv1:SG .u32 (.int .i64 (v:Int))=some (.int .u32 (v:Int)):=by rw[SG,wrap_u32 (by omega) (by omega)]
 have cv2:SG .u32 (.int .i64 (n:Int))=some (.int .u32 (n:Int)):=by rw[SG,wrap_u32 (by omega) (by omega)]
 have r:=ALx (a:=mixN v) (b:=n) (by omega) .u32
 have hl:mixN v%n<n:=Nat.mod_lt _ (by omega)
 rw[ownN,AHW]
 simp(disch:=first|assumption|omega|(with_reducible rfl)|(simp only[go_sem];done)|(simp only[go_sem];omega)|fail) only[↓reduceIte,↓AO,Nat.reduceAdd,go_sem,cv1,cv2,hm,r]
def ofL (n N w:Nat):List Nat:=(List.range n).filter fun v=>decide (ownN v N=w)
theorem YF (n N w:Nat):ofL (n+1) N w=if ownN n N=w then ofL n N w++[n]else ofL n N w:=by
 simp only[ofL,List.range_succ,List.filter_append,List.filter_cons,List.filter_nil]
 by_cases h:ownN n N=w<;>simp[h]
theorem AFi {n N w v:Nat} (h:v∈ofL n N w):v<n:=by
 simp only[ofL,List.mem_filter,List.mem_range]at h;exact h.1
theorem VY (n N w:Nat):(ofL n N w).length≤n:=by
 have:=List.length_filter_le (fun v=>decide (ownN v N=w)) (List.range n)
 simpa [ofL]using this
attribute [irreducible] mixN ownN ofL
abbrev vNs (f:Fl) (l:List Nat):V:= .lst 3 f (l.map fun(v:Nat)=>V.int .i64 (v:Int))
@[go_sem] theorem APm (l:List Nat):IA (l.map fun(v:Nat)=>V.int .i64 (v:Int))=true:=CX (fun _=>rfl) l
@[go_sem] theorem APn (l:List Nat):(l.map fun(v:Nat)=>V.int .i64 (v:Int)).all (tyI .i64)=true:=all_map (fun _=>rfl) l
theorem AFk (f:Fl) (l:List Nat) (v:Nat):vNs f (l++[v])= .lst 3 f ((l.map fun(v:Nat)=>V.int .i64 (v:Int))++[.int .i64 (v:Int)]):=by simp[vNs]
theorem AMu {v N w:Nat} (hv:v<1000) (h1:1≤N) (h2:N≤64):Cl 105 [.int .i64 (v:Int),.ref 0 [] 3,.ref 1 [] 3] [.int .i64 (N:Int),.int .i64 (w:Int)]=some (.bool (decide (ownN v N=w)),[.int .i64 (N:Int),.int .i64 (w:Int)]):=by
 have ho:=YE hv h1 h2
 have e:decide ((ownN v N:Int)=(w:Int))=decide (ownN v N=w):=decide_eq_decide.2 (by omega)
 rw[AHV]
 simp(disch:=first|assumption|omega|(with_reducible rfl)|(simp only[go_sem];done)|(simp only[go_sem];omega)|fail) only[↓reduceIte,↓AO,Nat.reduceAdd,go_sem,ho,e]
theorem AR1 {v N w:Nat} (hv:v<1000) (h1:1≤N) (h2:N≤64) (k:V→List V→Rv):BI P CJ W (.clo 105 [.ref 0 [] 3,.ref 1 [] 3]) [.int .i64 (v:Int)] [.int .i64 (N:Int),.int .i64 (w:Int)] k=k (.bool (decide (ownN v N=w))) [.int .i64 (N:Int),.int .i64 (w:Int)]:=
 MG k (by kernel_rfl) (by kernel_rfl) (AMu hv h1 h2)
theorem AMv {n N w:Nat} (hn:n≤64) (h1:1≤N) (h2:N≤64):∀(m i:Nat) (f:Fl),i+m=n→(f= .own∨f= .nil)→
 Ou (.clo 105 [.ref 0 [] 3,.ref 1 [] 3]) (vNs f (ofL i N w)) (.int .i64 (n:Int)) (.int .i64 (i:Int)) [.int .i64 (N:Int),.int .i64 (w:Int)]=some (.tup [vNs .sh (ofL n N w),.int .i64 0],[]):=by
 intro m
 induction m with
 |zero=>
  intro i f hi hf
  obtain rfl:i=n:=by omega
  rw[Sz]
  rcases hf with rfl|rfl
  ·simp(disch:=first|assumption|omega|(with_reducible rfl)|(simp only[go_sem];done)|(simp only[go_sem];omega)|fail) only[↓reduceIte,↓AO,Nat.reduceAdd,go_sem]
  ·simp(disch:=first|assumption|omega|(with_reducible rfl)|(simp only[go_sem];done)|(simp only[go_sem];omega)|fail) only[↓reduceIte,↓AO,Nat.reduceAdd,go_sem]
 |succ m ih=>
  intro i f hi hf
  have hl:=VY i N w
  have hv:=AFk .own (ofL i N w) i
  have h:=AR1 (v:=i) (N:=N) (w:=w) (by omega) h1 h2
  rw[Sz]
  by_cases ho:ownN i N=w
  ·have:=ih (i+1) .own (by omega) (Or.inl rfl)
   rw[YF,if_pos ho]at this
   rcases hf with rfl|rfl
   ·simp(disch:=first|assumption|omega|(with_reducible rfl)|(simp only[go_sem];done)|(simp only[go_sem];omega)|fail) only[↓reduceIte,↓AO,Nat.reduceAdd,go_sem,h,decide_eq_true ho]
    rw[hv]at this;exact this
   ·simp(disch:=first|assumption|omega|(with_reducible rfl)|(simp only[go_sem];done)|(simp only[go_sem];omega)|fail) only[↓reduceIte,↓AO,Nat.reduceAdd,go_sem,h,decide_eq_true ho]
    rw[hv]at this;exact this
  ·have:=ih (i+1) f (by omega) hf
   rw[YF,if_neg ho]at this
   simp(disch:=first|assumption|omega|(with_reducible rfl)|(simp only[go_sem];done)|(simp only[go_sem];omega)|fail) only[↓reduceIte,↓AO,Nat.reduceAdd,go_sem,h,decide_eq_false ho]
   exact this
theorem AMw {n N w:Nat} (h0:1≤n) (hn:n≤64) (h1:1≤N) (h2:N≤64) (hw:w<N):Cl 42 [.int .i64 (n:Int),.int .i64 (N:Int),.int .i64 (w:Int)] []=some (.tup [vNs .sh (ofL n N w),.int .i64 0],[]):=by
 have h:=AMv (w:=w) hn h1 h2 n 0 .nil (by omega) (Or.inr rfl)
 have r:Cl 104 [.int .i64 (n:Int),.int .i64 (N:Int)] []=some (.bool true,[]):=by
  rw[AHU]
  simp(disch:=first|assumption|omega|(with_reducible rfl)|(simp only[go_sem];done)|(simp only[go_sem];omega)|fail) only[↓reduceIte,↓AO,Nat.reduceAdd,go_sem]
  rw[decide_eq_true (by omega)]
 have z:vNs .nil (ofL 0 N w)= .lst 3 .nil []:=by simp[ofL]
 rw[z]at h
 rw[←h,ALc]
 simp(disch:=first|assumption|omega|(with_reducible rfl)|(simp only[go_sem];done)|(simp only[go_sem];omega)|fail) only[↓reduceIte,↓AO,Nat.reduceAdd,go_sem,r]
 rfl
end
section
open Go AM
theorem rb {R:Rv→Prop} {A:Type} {o:Option A} {x:A} (h:o=some x) {K:A→Rv} (q:R (K x)):R (o.bind K):=by rw[h];exact q
theorem Ib {R:Rv→Prop} {c:Bool} {a b:Rv} (h1:c=true→R a) (h2:c=false→R b):R (V.ite (.bool c) a b):=by cases c;exact h2 rfl;exact h1 rfl
theorem BP {R:Rv→Prop} {c:Bool} (h:c=true) {K:Rv} (q:R K):R (if c=true then K else none):=by rw[if_pos h];exact q
theorem Yu {R:Rv→Prop} {A:Type} {f:A} {g:A→Rv} (q:R (g f)):R (jn f g):=q
theorem Jh {R:Rv→Prop} {f:FuncId} {cs vs h h':List V} {v:V} {K:V→List V→Rv} (e:Cl f (AQ (vs++cs)) h=some (v,h')) (q:R (K v h')) (he:CJ.ext f=false:=by kernel_rfl) (hp:CJ.pure f=false:=by kernel_rfl) (hs:(CJ.seq f).1=0:=by kernel_rfl):R (BI P CJ W (.clo f cs) vs h K):=by
 rw[(Gw K he hp hs).trans (AA e _)];exact q
abbrev ZW:V:= .agg tVx [.int .i64 0,.int .i64 0,.bool false,.bool false,.int .i64 0]
def MIn (m:Msg):Prop:=MOk m∧0≤m.to∧m.to<64
def QS (x:Vtx) (K:Rv):Prop:=∃(y:Vtx) (l:List Msg) (e:Int),K=some (.tup [Ci y,Bl .sh l,.int .i64 e],[])∧JI y∧(e=0→y.id=x.id∧y.has=false)∧(∀m∈l,MIn m)∧l.length≤1000∧(e=0∨70≤e∧e≤71)
theorem QS.err {x:Vtx} {e:Int} (he:70≤e∧e≤71) (n:Nat) (H:List V) (hn:n=0) {L:V} (hL:L= .lst 152 .nil []∨L= .lst 152 .sh []):QS x (if(List.all [.int .i64 e,L,ZW] V.okE)=true then AP n H (V.tup [ZW,L,.int .i64 e])else none):=by
 subst hn
 refine⟨⟨0,0,false,false,0⟩,[],e,?_,by simp[JI,I64],fun h=>by omega,by simp,by simp,by omega⟩
 rcases hL with rfl|rfl<;>rfl
theorem ADB (t:List UInt8) (e:E0):∃w,Cl 120 [.str t,D7 e] []=some (.int .i64 w,[]):=by
 have es:∀l:List UInt8,AL .eql (.str t) (.str l)=some (.bool (t==l)):=fun l=>rfl
 rw[AHc]
 refine(fun h=>h:(∃w,_=some (V.int .i64 w,[]))→_) ?_
 let R:Rv→Prop:=fun K=>∃w,K=some (V.int .i64 w,[])
 show R _
 refine BP (R:=R) rfl ?_
 refine rb (R:=R) (es _) ?_
 refine Ib (R:=R) (fun _=> ?_) (fun _=> ?_)
 ·exact⟨e.w,rfl⟩
 ·refine rb (R:=R) (es _) ?_
  refine Ib (R:=R) (fun _=> ?_) (fun _=> ?_)
  ·exact⟨1,rfl⟩
  ·exact⟨0,rfl⟩
section
variable {g:Grf} {j:Job} {x:Vtx}
abbrev hSp (g:Grf) (j:Job) (x:Vtx) (w:Int) (f:Fl) (acc:List Msg) (fl:Bool):List V:=[vG .sh g,vJ j,Ci x,ZW,.int .i64 w,.lst 152 f (acc.map Aa),.bool fl]
abbrev cSp:V:= .clo 119 [.ref 2 [] 86,.ref 4 [] 2,.ref 1 [] 26,.ref 6 [] 4,.ref 5 [] 39]
theorem AJS (w:Int) {f:Fl} (hf:f= .own∨f= .nil) {acc:List Msg} (hacc:acc.length≤1000) (ha0:f= .nil→acc=[]) (fl:Bool) (hid:I64 x.id) {e:E0} (he:0≤e.to∧e.to<64):∃(m:Msg) (fl':Bool),MIn m∧
 Cl 119 [D7 e,.ref 2 [] 86,.ref 4 [] 2,.ref 1 [] 26,.ref 6 [] 4,.ref 5 [] 39] (hSp g j x w f acc fl++[D7 e])=
  some (.tup [],hSp g j x w .own (acc++[m]) fl'++[D7 e]):=by
 obtain⟨u,hu⟩:=ADB j.tag e
 have ad:=DT .i64 w u
 have hz:=VU (w+u)
 generalize IntKind.wrap .i64 (w+u)=z at*
 have gr:=G8 z
 rw[AHb]
 let m:Msg:=⟨x.id,e.to,z⟩
 have ap:∀h:List V,Gv 152 (tyG 151) false h (.lst 152 f (acc.map Aa)) (.lst 152 .own [Aa m])=some (.lst 152 .own ((acc++[m]).map Aa)):=fun h=>by
  have cl:AU [Aa m]=true:=rfl
  have ty:[Aa m].all (tyG 151)=true:=rfl
  rw[List.map_append]
  rcases hf with rfl|rfl
  ·rw[Dt cl ty (by simp;omega)];rfl
  ·rw[ha0 rfl,List.map_nil,Dx cl ty (by simp)];rfl
 have tk:∀b:Bool,BN ([vG .sh g,vJ j,Ci x,ZW,.int .i64 w,.lst 152 f (acc.map Aa),.bool b]++[D7 e]++[D7 e]++[Aa m]) 39 (.ref 5 [] 39)=some (.lst 152 f (acc.map Aa),[vG .sh g,vJ j,Ci x,ZW,.int .i64 w,V.weak (.lst 152 f (acc.map Aa)),.bool b]++[D7 e]++[D7 e]++[Aa m]):=fun b=>rfl
 have fin:∀b:Bool,(CY (tyL 152) 39 ([vG .sh g,vJ j,Ci x,ZW,.int .i64 w,V.weak (.lst 152 f (acc.map Aa)),.bool b]++[D7 e]++[D7 e]++[Aa m]) (.ref 5 [] 39) (.lst 152 .own ((acc++[m]).map Aa)))=some (hSp g j x w .own (acc++[m]) b++[D7 e]++[D7 e]++[Aa m]):=fun b=>rfl
 let R:Rv→Prop:=fun K=>∃(m:Msg) (fl':Bool),MIn m∧K=some (.tup [],hSp g j x w .own (acc++[m]) fl'++[D7 e])
 show R _
 have hm:MIn m:=⟨⟨hid,⟨by show(-9223372036854775808:Int)≤e.to;omega,by show e.to<(9223372036854775808:Int);omega⟩,hz⟩,he.1,he.2⟩
 have last:∀b:Bool,R ((BN ([vG .sh g,vJ j,Ci x,ZW,.int .i64 w,.lst 152 f (acc.map Aa),.bool b]++[D7 e]++[D7 e]++[Aa m]) 39 (.ref 5 [] 39)).bind fun r_14=>(AV r_14.2 152 (V.ref 9 [] 152)).bind fun t26_15=>(Nr 152 false (ck [(tyG 151) t26_15] [t26_15])).bind fun t27_16=>(Gv 152 (tyG 151) false r_14.2 r_14.1 t27_16).bind fun t28_17=>(CY (tyL 152) 39 r_14.2 (.ref 5 [] 39) t28_17).bind fun h_18=>if(List.all [] V.okE)=true then AP 8 h_18 (V.tup [])else none):=fun b=>by
  refine rb (R:=R) (tk b) ?_
  refine rb (R:=R) (x:=Aa m) rfl ?_
  refine rb (R:=R) (x:=V.lst 152 .own [Aa m]) rfl ?_
  refine rb (R:=R) (ap _) ?_
  refine rb (R:=R) (fin b) ?_
  exact⟨m,b,hm,rfl⟩
 refine BP (R:=R) rfl ?_
 refine rb (R:=R) rfl ?_
 refine rb (R:=R) rfl ?_
 refine rb (R:=R) rfl ?_
 refine rb (R:=R) rfl ?_
 refine rb (R:=R) rfl ?_
 refine rb (R:=R) rfl ?_
 refine rb (R:=R) rfl ?_
 refine rb (R:=R) rfl ?_
 refine BP (R:=R) rfl ?_
 refine rb (R:=R) (show _=some (V.int .i64 u,[])from hu) ?_
 refine rb (R:=R) ad ?_
 refine rb (R:=R) rfl ?_
 refine rb (R:=R) rfl ?_
 refine Yu (R:=R) ?_
 refine rb (R:=R) rfl ?_
 refine Ib (R:=R) (fun h=> ?_) (fun h=> ?_)
 ·refine rb (R:=R) rfl ?_
  exact last true
 ·refine rb (R:=R) rfl ?_
  refine rb (R:=R) rfl ?_
  refine rb (R:=R) (show _=some (V.bool (DU z),[])from gr) ?_
  refine rb (R:=R) rfl ?_
  exact last (DU z)
end
end
section
open Go AM
section
variable {g:Grf} {j:Job} {x:Vtx}
theorem step_loop {x0:Vtx} (hx0:x.id=x0.id) (w v:Int) (hv:I64 v) (a s:Bool) (hid:I64 x.id) {es:List E0} (hes:es.length≤600) (hin:∀e∈es,0≤e.to∧e.to<64):∀(m i:Nat) (f:Fl) (acc:List Msg) (fl:Bool),i+m=es.length→acc.length≤i→(f= .own∨f= .nil)→(f= .nil→acc=[])→(∀m∈acc,MIn m)→
 QS x0 (Lr (.ref 2 [] 86) (.ref 3 [] 86) (.int .i64 v) (.bool a) (.bool s) (.ref 5 [] 39) (.ref 6 [] 4) cSp (.lst 96 .sh (es.map D7)) (.int .i64 (es.length:Int)) (.int .i64 (i:Int)) (hSp g j x w f acc fl)):=by
 intro m
 induction m with
 |zero=>
  intro i f acc fl hi hacc hf hn hok
  have ls:AL .lss (.int .i64 (i:Int)) (.int .i64 (es.length:Int))=some (.bool false):=by rw[b_lss,decide_eq_false (by omega)]
  rw[S9]
  refine rb (R:=QS x0) ls ?_
  refine Ib (R:=QS x0) (fun h=>by cases h) (fun _=> ?_)
  refine rb (R:=QS x0) rfl ?_
  refine Ib (R:=QS x0) (fun _=> ?_) (fun _=> ?_)
  ·refine rb (R:=QS x0) rfl ?_
   refine rb (R:=QS x0) rfl ?_
   refine rb (R:=QS x0) rfl ?_
   exact QS.err (by omega) 0 _ rfl (.inl rfl)
  ·refine BP (R:=QS x0) rfl ?_
   refine rb (R:=QS x0) rfl ?_
   refine rb (R:=QS x0) rfl ?_
   refine rb (R:=QS x0) rfl ?_
   refine BP (R:=QS x0) rfl ?_
   refine rb (R:=QS x0) rfl ?_
   refine BP (R:=QS x0) rfl ?_
   refine rb (R:=QS x0) rfl ?_
   refine rb (R:=QS x0) rfl ?_
   refine⟨⟨x.id,v,a,false,0⟩,acc,0,?_,⟨hid,hv,by simp[I64]⟩,fun _=>⟨hx0,rfl⟩,hok,by omega,.inl rfl⟩
   rcases hf with rfl|rfl<;>rfl
 |succ m ih=>
  intro i f acc fl hi hacc hf hn hok
  have h:i<es.length:=by omega
  have ls:AL .lss (.int .i64 (i:Int)) (.int .i64 (es.length:Int))=some (.bool true):=by rw[b_lss,decide_eq_true (by omega)]
  have ix:Eg 96 (.lst 96 .sh (es.map D7)) (.int .i64 (i:Int))=some (.rop 96 (D7 es[i])):=by
   rw[EQ,List.getElem?_map,List.getElem?_eq_getElem h];rfl
  have ad:AL .add (.int .i64 (i:Int)) (.int .i64 1)=some (.int .i64 ((i+1:Nat):Int)):=by rw[DT,wrap_i64 (by omega) (by omega)];rfl
  have he:=hin _ (List.getElem_mem h)
  obtain⟨mm,fl',hmm,sd⟩:=AJS (g:=g) (j:=j) (x:=x) w hf (acc:=acc) (by omega) hn fl hid he
  have nx1:=ih (i+1) .own (acc++[mm]) fl' (by omega) (by simp;omega) (.inl rfl) (fun h=>by cases h) (fun q hq=>by rcases List.mem_append.1 hq with hq|hq;exact hok q hq;rw[List.mem_singleton]at hq;subst hq;exact hmm)
  have nx2:=ih (i+1) f acc fl (by omega) (by omega) hf hn hok
  rw[S9]
  clear ih
  generalize es[i]=e at*
  generalize (i+1:Nat)=i2 at*
  generalize (es.length:Int)=ll at*
  generalize es.map D7=EL at*
  refine rb (R:=QS x0) ls ?_
  refine Ib (R:=QS x0) (fun _=> ?_) (fun h=>by cases h)
  refine rb (R:=QS x0) ix ?_
  refine rb (R:=QS x0) rfl ?_
  refine rb (R:=QS x0) rfl ?_
  refine Ib (R:=QS x0) (fun _=> ?_) (fun _=> ?_)
  ·refine rb (R:=QS x0) rfl ?_
   refine Jh (R:=QS x0) sd ?_
   refine BP (R:=QS x0) rfl ?_
   refine rb (R:=QS x0) ad ?_
   refine BP (R:=QS x0) rfl ?_
   exact nx1
  ·refine rb (R:=QS x0) ad ?_
   refine BP (R:=QS x0) (by rcases hf with rfl|rfl<;>rfl) ?_
   exact nx2
theorem AMx {g:Grf} (hc:FB g=0) (v:Int):(∀e∈(FD g).es.filter (fun e=>decide (e.fr=v)),0≤e.to∧e.to<64)∧((FD g).es.filter (fun e=>decide (e.fr=v))).length≤600:=by
 have hp:=(AMp hc).1
 have hn:(FD g).es=MK g.es:=by rw[FD,if_pos hc]
 constructor
 ·intro e he
  rw[List.mem_filter,hn]at he
  have:=VX hc e (hp.mem_iff.1 he.1)
  simp only[InB]at this;omega
 ·have h1:=List.length_filter_le (fun e:E0=>decide (e.fr=v)) (FD g).es
  have h2:=(VW hc).2.1
  rw[hn,X7]at h1
  rw[hn];omega
theorem AMy {R:Rv→Prop} {P:Bool→Prop} {f:V→Rv} {g:(V→Rv)→Rv} (hf:∀b,P b→R (f (.bool b))) (hg:∀k:V→Rv,(∀b,P b→R (k (.bool b)))→R (g k)):R (jn f g):=hg f hf
set_option maxHeartbeats 1000000 in
theorem Hq (hj:EX g j=true) (at_:Int) {x:Vtx} (hx:JI x):QS x (Cl 57 [vG .sh g,vJ j,.int .i64 at_,Ci x] []):=by
 have hc:FB g=0:=by simp only[EX,decide_eq_true_eq]at hj;exact hj.1
 have hl:g.es.length<1000000:=by have:=(VW hc).2.1;omega
 have ck:=UB hl j
 rw[if_pos hj]at ck
 have ot:=AMq hl x.id
 obtain⟨o1,o2⟩:=AMx hc x.id
 generalize (FD g).es.filter (fun e=>decide (e.fr=x.id))=es at*
 have lL:(es.map D7).length=es.length:=List.length_map _
 have rck:∀{H:List V} {K:V×List V→Rv},QS x (K (.int .i64 0,[]))→QS x ((Cl 41 (AB H [vG .sh g,vJ j]) []).bind K):=fun q=>rb (R:=QS x) (show Cl 41 _ _=_ from ck) q
 have rgr:∀{H:List V} {n:Int} {K:V×List V→Rv},(∀b:Bool,QS x (K (.bool b,[])))→QS x ((Cl 116 (AB H [.int .i64 n]) []).bind K):=fun q=>rb (R:=QS x) (show Cl 116 _ _=_ from G8 _) (q _)
 have rot:∀{H:List V} {K:V×List V→Rv},QS x (K (.lst 96 .sh (es.map D7),[]))→QS x ((Cl 117 (AB H [vG .sh g,.int .i64 x.id]) []).bind K):=fun q=>rb (R:=QS x) (show Cl 117 _ _=_ from ot) q
 have rst:∀{H:List V} {x':Vtx} {K:V×List V→Rv},JI x'→(∀(v:Int) (a s:Bool) (w:Int),I64 v→QS x (K (.tup [.int .i64 v,.bool a,.bool s,.int .i64 w],[])))→QS x ((Cl 118 (AB H [vJ j,.int .i64 at_,Ci x',.int .i64 ((es.map D7).length:Int)]) []).bind K):=fun{H x' K} hx' q=>by
  obtain⟨v,a,s,w,hv,hw,e⟩:=AFg (j:=j) (at_:=at_) hx'.2.1 hx'.2.2 (n:=((es.map D7).length:Int)) (by omega)
  exact rb (R:=QS x) (show Cl 118 _ _=_ from e) (q v a s w hv)
 have hx0:JI ⟨x.id,x.val,x.act,x.has,0⟩:=⟨hx.1,hx.2.1,by simp[I64]⟩
 have lp:∀(x':Vtx),x'.id=x.id→JI x'→∀(w v:Int) (a s fl:Bool),I64 v→QS x (Lr (.ref 2 [] 86) (.ref 3 [] 86) (.int .i64 v) (.bool a) (.bool s) (.ref 5 [] 39) (.ref 6 [] 4) cSp (.lst 96 .sh (es.map D7)) (.int .i64 ((es.map D7).length:Int)) (.int .i64 0) (hSp g j x' w .nil [] fl)):=fun x' h1 h2 w v a s fl hv=>by
  rw[lL]
  exact step_loop h1 w v hv a s h2.1 o2 o1 es.length 0 .nil [] fl (by omega) (Nat.le_refl 0) (.inr rfl) (fun _=>rfl) (by simp)
 clear ot o1 o2 hj hc ck
 have ret:∀H:List V,x.has=false→QS x (if(List.all [.int .i64 0,.lst 152 .nil [],Ci x] V.okE)=true then AP 0 H (V.tup [Ci x,.lst 152 .nil [],.int .i64 0])else none):=fun H hh=>
  ⟨x,[],0,rfl,hx,fun _=>⟨rfl,hh⟩,by simp,by simp,.inl rfl⟩
 rw[ALe]
 iterate 3 refine BP (R:=QS x) rfl ?_
 refine AMy (R:=QS x) (P:=fun _=>True) (fun b _=> ?_) (fun k hk=> ?_)
 rotate_left
 ·iterate 2 refine rb (R:=QS x) rfl ?_
  refine rck ?_
  refine rb (R:=QS x) rfl ?_
  refine Ib (R:=QS x) (fun _=>hk _ trivial) (fun _=> ?_)
  iterate 3 refine rb (R:=QS x) rfl ?_
  refine Ib (R:=QS x) (fun _=>hk _ trivial) (fun _=> ?_)
  iterate 5 refine rb (R:=QS x) rfl ?_
  refine Ib (R:=QS x) (fun _=>hk _ trivial) (fun _=> ?_)
  refine rb (R:=QS x) rfl ?_
  refine Ib (R:=QS x) (fun _=>hk _ trivial) (fun _=> ?_)
  iterate 3 refine rb (R:=QS x) rfl ?_
  exact hk _ trivial
 refine Ib (R:=QS x) (fun _=> ?_) (fun _=> ?_)
 ·iterate 3 refine rb (R:=QS x) rfl ?_
  exact QS.err (by omega) 0 _ rfl (.inl rfl)
 refine AMy (R:=QS x) (P:=fun _=>True) (fun b _=> ?_) (fun k hk=> ?_)
 rotate_left
 ·iterate 2 refine rb (R:=QS x) rfl ?_
  refine rgr (fun b=> ?_)
  refine Ib (R:=QS x) (fun _=>hk _ trivial) (fun _=> ?_)
  iterate 2 refine rb (R:=QS x) rfl ?_
  refine rgr (fun b=> ?_)
  exact hk _ trivial
 refine Ib (R:=QS x) (fun _=> ?_) (fun _=> ?_)
 ·iterate 3 refine rb (R:=QS x) rfl ?_
  exact QS.err (by omega) 0 _ rfl (.inl rfl)
 refine AMy (R:=QS x) (P:=fun b=>b=true→x.has=false) (fun b hb=> ?_) (fun k hk=> ?_)
 rotate_left
 ·iterate 3 refine rb (R:=QS x) rfl ?_
  refine Ib (R:=QS x) (fun _=> ?_) (fun _=>hk _ (fun h=>by cases h))
  iterate 3 refine rb (R:=QS x) rfl ?_
  exact hk (!x.has) (fun h=>by simpa using h)
 refine Ib (R:=QS x) (fun h=> ?_) (fun _=> ?_)
 ·iterate 3 refine rb (R:=QS x) rfl ?_
  exact ret _ (hb h)
 iterate 3 refine rb (R:=QS x) rfl ?_
 refine Yu (R:=QS x) ?_
 refine Ib (R:=QS x) (fun _=> ?_) (fun _=> ?_)
 ·iterate 2 refine rb (R:=QS x) rfl ?_
  iterate 3 refine rb (R:=QS x) rfl ?_
  refine rot ?_
  iterate 3 refine rb (R:=QS x) rfl ?_
  refine rst (x':=⟨x.id,x.val,x.act,x.has,0⟩) hx0 (fun v a s w hv=> ?_)
  iterate 5 refine rb (R:=QS x) rfl ?_
  refine rgr (fun b=> ?_)
  iterate 3 refine rb (R:=QS x) rfl ?_
  exact lp ⟨x.id,x.val,x.act,x.has,0⟩ rfl hx0 _ _ _ _ _ hv
 ·iterate 3 refine rb (R:=QS x) rfl ?_
  refine rot ?_
  iterate 3 refine rb (R:=QS x) rfl ?_
  refine rst (x':=x) hx (fun v a s w hv=> ?_)
  iterate 5 refine rb (R:=QS x) rfl ?_
  refine rgr (fun b=> ?_)
  iterate 3 refine rb (R:=QS x) rfl ?_
  exact lp x rfl hx _ _ _ _ _ hv
end
end
section
open Go AM
theorem AJT {l:List Msg} (hl:l.length≤1000000) {N:Int} (hin:∀m∈l,0≤m.to):∀(n i:Nat),i+n=l.length→
 Nz (Bl .sh l) (.clo 122 []) (.int .i64 (l.length:Int)) (.int .i64 (i:Int)) 1 [.int .i64 N]=some (.int .i64 (-1),[.int .i64 N]):=by
 intro n
 induction n with
 |zero=>
  intro i hi
  have ls:AL .lss (.int .i64 (i:Int)) (.int .i64 (l.length:Int))=some (.bool false):=by rw[b_lss,decide_eq_false (by omega)]
  rw[P5]
  refine(AA ls _).trans ?_
  rfl
 |succ n ih=>
  intro i hi
  have h:i<l.length:=by omega
  have ls:AL .lss (.int .i64 (i:Int)) (.int .i64 (l.length:Int))=some (.bool true):=by rw[b_lss,decide_eq_true (by omega)]
  have ix:Eg 152 (V.weak (Bl .sh l)) (.int .i64 (i:Int))=some (.rop 152 (Aa l[i])):=by
   show Eg _ (.lst _ .sh _) _=_
   rw[EQ,List.getElem?_map,List.getElem?_eq_getElem h];rfl
  have l1:AV [V.int .i64 N] 152 (.rop 152 (Aa l[i]))=some (Aa l[i]):=En
  have ad:AL .add (.int .i64 (i:Int)) (.int .i64 1)=some (.int .i64 ((i+1:Nat):Int)):=by rw[DT,wrap_i64 (by omega) (by omega)];rfl
  have ht:=hin _ (List.getElem_mem h)
  have c1:Cl 122 [Aa l[i]] []=some (.bool false,[]):=by
   generalize l[i]=m at*
   have le:AL .lss (.int .i64 m.to) (.int .i64 0)=some (.bool false):=by rw[b_lss,decide_eq_false (by omega)]
   rw[AHe]
   refine BP (R:=fun K=>K=_) rfl ?_
   refine rb (R:=fun K=>K=_) rfl ?_
   refine rb (R:=fun K=>K=_) rfl ?_
   refine rb (R:=fun K=>K=_) le ?_
   rfl
  have cv:∀K:V→List V→Rv,BI P CJ W (.clo 122 []) [Aa l[i]] [.int .i64 N] K=K (.bool false) [.int .i64 N]:=fun K=>by
   refine(JE K (by kernel_rfl) (by kernel_rfl)).trans ?_
   exact AA (show Cl 122 (AB [.int .i64 N] ([Aa l[i]]++[])) []=_ from c1) _
  rw[←ih (i+1) (by omega),P5]
  refine(AA ls _).trans ?_
  refine(Ag _ _).trans ?_
  refine(AA ix _).trans ?_
  refine(AA l1 _).trans ?_
  refine(cv _).trans ?_
  refine(if_pos rfl).trans ?_
  refine(Aj _ _).trans ?_
  exact AA ad _
theorem AFm {l:List Msg} (hl:l.length≤1000000) {N:Int} (hin:∀m∈l,0≤m.to):Cl 121 [Bl .sh l,.clo 122 []] [.int .i64 N]=some (.bool false,[.int .i64 N]):=by
 have lp:=AJT hl (N:=N) hin l.length 0 (by omega)
 have lL:E5 (V.weak (Bl .sh l))=some (.int .i64 (l.length:Int)):=by show some _=_;rw[List.length_map]
 have ix:Cl 172 (AQ [Bl .sh l,.clo 122 []]) [.int .i64 N]=some (.int .i64 (-1),[.int .i64 N]):=by
  show Cl _ [Bl .sh l,.clo 122 []] _=_
  rw[←lp,AH0]
  exact AA lL _
 rw[AHd]
 refine(AA ix _).trans ?_
 rfl
def Nl (N w:Nat) (l:List Msg):List Msg:=CQ (l.filter fun m=>decide (ownN m.to.toNat N=w))
def Np (N:Nat) (l:List Msg):List (List Msg):=(List.range N).map fun w=>Nl N w l
section
variable {N:Nat} {l:List Msg}
theorem AFn (w:Nat):(Nl N w l).length≤l.length:=by
 rw[Nl,CQ,List.length_mergeSort]
 exact List.length_filter_le _ _
theorem AFo (h1:1≤N) (hN:N≤64) (hl:l.length≤1000000) (hin:∀m∈l,MIn m):∀(m i:Nat),i+m=N→
 Ul (Bl .sh l) (.ref 0 [] 3) (.win 1 [] 0 N 39) (.int .i64 (N:Int)) (.int .i64 (i:Int)) [.int .i64 (N:Int),.row 39 (((List.range i).map fun w=>Bl .sh (Nl N w l))++List.replicate m (.lst 152 .nil []))]=
  some (.tup [.lst 39 .sh ((Np N l).map (Bl .sh)),.int .i64 0],[]):=by
 intro m
 induction m with
 |zero=>
  intro i hi
  obtain rfl:i=N:=by omega
  have ls:AL .lss (.int .i64 (i:Int)) (.int .i64 (i:Int))=some (.bool false):=by rw[b_lss,decide_eq_false (by omega)]
  have hs:(List.range i).map (fun w=>Bl .sh (Nl i w l))=(Np i l).map (Bl .sh):=by rw[Np,List.map_map];rfl
  have hlen:((Np i l).map (Bl .sh)).length=i:=by simp[Np]
  rw[List.replicate_zero,List.append_nil,hs,TA]
  have pl:∀L:List (List Msg),IA (L.map (Bl .sh))=true:=fun L=>CX (fun a=>by show IA _=true;exact AEu a) L
  have p1:=pl (Np i l)
  generalize (Np i l).map (Bl .sh)=L at*
  have ct:Ac [.int .i64 (i:Int),.row 39 L] (.win 1 [] 0 i 39)=some L:=by
   simp only[Ac,rd,List.getElem?_cons_zero,List.getElem?_cons_succ,Option.bind_some,V.at,V.items,Option.map_some,List.drop_zero]
   rw[List.take_of_length_le (by omega)]
  have fn:AP 0 [.int .i64 (i:Int),.row 39 L] (.tup [.win 1 [] 0 i 39,.int .i64 0])=some (.tup [.lst 39 .sh L,.int .i64 0],[]):=by
   simp only[AP,V.unmut,C9,ct,L8 p1,KZ p1,if_true]
   rfl
  refine(AA ls _).trans ?_
  refine(Aj _ _).trans ?_
  refine(if_pos rfl).trans ?_
  exact fn
 |succ m ih=>
  intro i hi
  have ls:AL .lss (.int .i64 (i:Int)) (.int .i64 (N:Int))=some (.bool true):=by rw[b_lss,decide_eq_true (by omega)]
  have ad:AL .add (.int .i64 (i:Int)) (.int .i64 1)=some (.int .i64 ((i+1:Nat):Int)):=by rw[DT,wrap_i64 (by omega) (by omega)];rfl
  generalize hR:((List.range i).map fun w=>Bl .sh (Nl N w l))++List.replicate (m+1) (V.lst 152 .nil [])=R
  generalize hR2:((List.range (i+1)).map fun w=>Bl .sh (Nl N w l))++List.replicate m (V.lst 152 .nil [])=R2
  have hset:R.set i (Bl .sh (Nl N i l))=R2:=by
   rw[←hR,←hR2,List.set_append_right _ _ (by simp)]
   simp[List.range_succ,List.replicate_succ]
  have hRl:i<R.length:=by rw[←hR];simp
  have hc:∀q∈l,∀K:V→List V→Rv,BI P CJ W (.clo 124 [.ref 0 [] 3,.ref 2 [] 3]) [Aa q] ([.int .i64 (N:Int),.row 39 R,.int .i64 (i:Int)]++[Aa q]) K=
   K (.bool (decide (ownN q.to.toNat N=i))) ([.int .i64 (N:Int),.row 39 R,.int .i64 (i:Int)]++[Aa q]):=fun q hq K=>by
   have hq':=hin q hq
   have ow:=YE (v:=q.to.toNat) (n:=N) (by have:=hq'.2;omega) h1 hN
   rw[show((q.to.toNat:Nat):Int)=q.to by have:=hq'.2;omega]at ow
   have eq:AL .eql (.int .i64 (ownN q.to.toNat N:Int)) (.int .i64 (i:Int))=some (.bool (decide (ownN q.to.toNat N=i))):=by
    rw[b_eql];congr 2;exact decide_eq_decide.2 (by omega)
   refine Jh (R:=fun X=>X=_) (h':=[.int .i64 (N:Int),.row 39 R,.int .i64 (i:Int)]++[Aa q]) (v:= .bool (decide (ownN q.to.toNat N=i))) ?_ rfl
   show Cl 124 [Aa q,.ref 0 [] 3,.ref 2 [] 3] _=_
   rw[AHg]
   generalize ownN q.to.toNat N=o at*
   refine BP (R:=fun K=>K=_) rfl ?_
   refine rb (R:=fun K=>K=_) rfl ?_
   refine rb (R:=fun K=>K=_) rfl ?_
   refine rb (R:=fun K=>K=_) rfl ?_
   refine rb (R:=fun K=>K=_) (show _=some (V.int .i64 (o:Int),[])from ow) ?_
   refine rb (R:=fun K=>K=_) rfl ?_
   refine rb (R:=fun K=>K=_) eq ?_
   rfl
  have pk:=Xr (c:= .clo 124 [.ref 0 [] 3,.ref 2 [] 3]) (H:=[.int .i64 (N:Int),.row 39 R,.int .i64 (i:Int)]) (p:=fun q=>decide (ownN q.to.toNat N=i)) (l:=l) (fl:= .sh) rfl hl (by simp) hc
  have so:=Ob .sh (l.filter fun q=>decide (ownN q.to.toNat N=i)) (by have:=List.length_filter_le (fun q:Msg=>decide (ownN q.to.toNat N=i)) l;omega)
  rw[show CQ (l.filter fun q=>decide (ownN q.to.toNat N=i))=Nl N i l from rfl]at so
  have ck:∀K:V→List V→Rv,EI P CJ W true none [.ref 2 [] 3] (.clo 123 []) [Bl .sh l,.clo 124 [.ref 0 [] 3,.ref 2 [] 3]] [.int .i64 (N:Int),.row 39 R,.int .i64 (i:Int)] K=
   K (Bl .sh (l.filter fun q=>decide (ownN q.to.toNat N=i))) [.int .i64 (N:Int),.row 39 R,.int .i64 (i:Int)]:=fun K=>by
   unfold EI
   refine(AA (show ACj [.int .i64 (N:Int),.row 39 R,.int .i64 (i:Int)] [.clo 123 [],Bl .sh l,.clo 124 [.ref 0 [] 3,.ref 2 [] 3]]=some 3 from rfl) _).trans ?_
   refine(Gw _ (by kernel_rfl) (by kernel_rfl)).trans ?_
   refine(AA (show Cl 123 _ _=some (Bl .sh (l.filter fun q=>decide (ownN q.to.toNat N=i)),[.int .i64 (N:Int),.row 39 R,.int .i64 (i:Int)])from pk) _).trans ?_
   refine if_pos ?_
   simp only[AD6,List.all_cons,List.all_nil,Bool.and_true]
   simp[V.same]
  have xx:Eg 39 (V.weak (.win 1 [] 0 N 39)) (.int .i64 (i:Int))=some (.ref 1 [i] 39):=by
   have hin:inside (i:Int) N=true:=by simp only[inside,Bool.and_eq_true,decide_eq_true_eq];omega
   simp only[V.weak,Eg,hin,Int.toNat_natCast,decide_true,Bool.and_self,if_true,List.nil_append,Nat.zero_add]
  have st:CY (AM.tyL 152) 39 [.int .i64 (N:Int),.row 39 R,.int .i64 (i:Int)] (.ref 1 [i] 39) (Bl .sh (Nl N i l))=some [.int .i64 (N:Int),.row 39 R2,.int .i64 (i:Int)]:=by
   rw[AOw rfl rfl]
   simp only[List.getElem?_cons_zero,List.getElem?_cons_succ,Option.bind_some]
   rw[AL6 hRl,hset];rfl
  have nx:=ih (i+1) (by omega)
  rw[hR2]at nx
  rw[←nx,TA]
  clear ih nx hR hR2 hset hin hc pk
  generalize Nl N i l=hi_ at*
  generalize l.filter (fun q=>decide (ownN q.to.toNat N=i))=fl_ at*
  generalize (i+1:Nat)=i2 at*
  refine(AA ls _).trans ?_
  refine(Ag _ _).trans ?_
  refine(AA (show CY (AM.tyI .i64) 3 ([.int .i64 (N:Int),.row 39 R]++[.int .i64 0]) (.ref 2 [] 3) (.int .i64 (i:Int))=some [.int .i64 (N:Int),.row 39 R,.int .i64 (i:Int)]from rfl) _).trans ?_
  refine(if_pos rfl).trans ?_
  refine(AA (show AV [.int .i64 (N:Int),.row 39 R,.int .i64 (i:Int)] 3 (.ref 2 [] 3)=some (.int .i64 (i:Int))from rfl) _).trans ?_
  refine(AA (show _=some (V.clo 124 [.ref 0 [] 3,.ref 2 [] 3])from if_pos rfl) _).trans ?_
  refine(ck _).trans ?_
  refine(AA (show Cl 101 (AB _ [Bl .sh fl_]) []=_ from so) _).trans ?_
  refine(AA xx _).trans ?_
  refine(AA st _).trans ?_
  refine(AA ad _).trans ?_
  exact if_pos rfl
theorem YG (h1:1≤N) (hN:N≤64) (hl:l.length≤1000000) (hin:∀m∈l,MIn m):Cl 58 [.int .i64 (N:Int),Bl .sh l] []=some (.tup [.lst 39 .sh ((Np N l).map (Bl .sh)),.int .i64 0],[]):=by
 have lp:=AFo h1 hN hl hin N 0 (by omega)
 have ct:=AFm hl (N:=(N:Int)) (fun m hm=>(hin m hm).2.1)
 have a1:AL .lss (.int .i64 (N:Int)) (.int .i64 1)=some (.bool false):=by rw[b_lss,decide_eq_false (by omega)]
 have a2:AL .gtr (.int .i64 (N:Int)) (.int .i64 64)=some (.bool false):=by rw[b_gtr,decide_eq_false (by omega)]
 have mk:mkL 39 (V.lst 152 .nil []) (.int .i64 (N:Int)) (.int .i64 (N:Int))=some (.lst 39 .own (List.replicate N (V.lst 152 .nil []))):=by
  simp only[mkL]
  rw[if_pos (by omega),Int.toNat_natCast]
 have tb:DN [V.int .i64 (N:Int)] (.lst 39 .own (List.replicate N (V.lst 152 .nil [])))=some (.win 1 [] 0 N 39,[.int .i64 (N:Int),.row 39 (List.replicate N (V.lst 152 .nil []))]):=by
  simp[DN]
 rw[List.range_zero,List.map_nil,List.nil_append]at lp
 rw[←lp,ALf]
 clear lp
 generalize List.replicate N (V.lst 152 .nil [])=R at*
 refine(if_pos rfl).trans ?_
 refine(AO _ _).trans ?_
 refine(AA (show AV [V.int .i64 (N:Int)] 3 (.ref 0 [] 3)=some (.int .i64 (N:Int))from rfl) _).trans ?_
 refine(AA a1 _).trans ?_
 refine(Aj _ _).trans ?_
 refine(AA (show AV [V.int .i64 (N:Int)] 3 (.ref 0 [] 3)=some (.int .i64 (N:Int))from rfl) _).trans ?_
 refine(AA a2 _).trans ?_
 refine(Aj _ _).trans ?_
 refine(AA (show Cl 121 (AQ [(Bl .sh l).weak,.clo 122 []]) [.int .i64 (N:Int)]=_ from ct) _).trans ?_
 refine(Aj _ _).trans ?_
 refine(AA (show AV [V.int .i64 (N:Int)] 3 (.ref 0 [] 3)=some (.int .i64 (N:Int))from rfl) _).trans ?_
 refine(AA mk _).trans ?_
 refine(AA tb _).trans ?_
 exact AA (show E5 (V.weak (.win 1 [] 0 N 39))=some (.int .i64 (N:Int))from rfl) _
end
end
section
open Go AM
def Vs (x:Int):Bool:=decide (0≤x)&&decide (x<64)
def mR (m:Msg):Bool:=Vs m.fr&&Vs m.to&&decide (m.val≤1125899906842624)&&decide (-1125899906842624≤m.val)
def AFp (a b:Msg):Bool:=decide (a.fr=b.fr)&&decide (a.to=b.to)
def Hr (l:List Msg):Nat→Nat→Bool
 |0,_=>true
 |n+1,i=> !(decide (0<i)&&AFp (l.getD (i-1) default) (l.getD i default))&&mR (l.getD i default)&&Hr l n (i+1)
def ADC (l:List Msg):Bool:=decide (l.length≤512)&&Hr (CQ l) l.length 0
theorem AKv (x:Int):Cl 174 [.int .i64 x] []=some (.bool (Vs x),[]):=by
 rw[AH2,AAz,AA0]
 by_cases h:0≤x
 ·refine(AMG h _).trans ?_
  rw[BK]
  refine(AA (b_lss _ _ _) _).trans ?_
  rw[Vs,decide_eq_true h];rfl
 ·refine(AMH h _).trans ?_
  rw[BL,Vs,decide_eq_false h];rfl
abbrev cc:V:= .clo 174 []
theorem AMz {h:List V} {id:Nat} {m:Msg} (hh:h[id]?=some (Aa m)) (dup:Bool) (K:V→List V→Option (V×List V)):
 Uz cc (.ref id [] 152) (.bool dup) h K=K (.bool (!mR m||dup)) h:=by
 rw[Uz]
 refine(ABz hh _).trans ?_
 refine(JE (f:=174) (cs:=[]) _ (by kernel_rfl) (by kernel_rfl)).trans ?_
 refine(AA (AKv m.fr) _).trans ?_
 refine(if_pos rfl).trans<|(APT _ _).trans ?_
 rw[ZK]
 by_cases h1:Vs m.fr=true
 ·rw[if_neg (by simp[h1])]
  refine(AB0 hh _).trans ?_
  refine(JE (f:=174) (cs:=[]) _ (by kernel_rfl) (by kernel_rfl)).trans ?_
  refine(AA (AKv m.to) _).trans ?_
  refine(if_pos rfl).trans<|(APT _ _).trans ?_
  rw[ZK]
  by_cases h2:Vs m.to=true
  ·rw[if_neg (by simp[h2])]
   refine(ZJ hh _).trans ?_
   by_cases h3:m.val≤1125899906842624
   ·refine(AMa (by omega) _).trans ?_
    rw[BL]
    refine(ZJ hh _).trans ?_
    by_cases h4: -1125899906842624≤m.val
    ·refine(Gm (by omega) _).trans ?_
     rw[BL];simp[mR,h1,h2,h3,h4]
    ·refine(GK (by omega) _).trans ?_
     rw[BK];simp[mR,h4]
   ·refine(AMZ (by omega) _).trans ?_
    rw[BK];simp[mR,h3]
  ·rw[if_pos (by simp[h2])];simp[mR,h2]
 ·rw[if_pos (by simp[h1])];simp[mR,h1]
theorem APo {B:Type} {h:List V} {m:Msg} {x:Int} (j:Nat) (u:TypeId) (hj:[3,3,2][j]?=some u) (hu:P.cellsOf u≠0) (hx:[V.int .i64 m.fr,V.int .i64 m.to,V.int .i64 m.val][j]?=some (.int .i64 x)) (K:V→Option B):
 (BH P 152 j (.rop 152 (Aa m))).bind (fun t=>(AV h u t).bind K)=K (.int .i64 x):=by
 refine(AA (show BH P 152 j (.rop 152 (Aa m))=some (.rop u (.int .i64 x))by simp[BH,ABi,hj,hu,Aa,hx]) _).trans ?_
 exact ldR K
theorem APp {B:Type} {h:List V} {m:Msg} (K:V→Option B):(BH P 152 0 (.rop 152 (Aa m))).bind (fun t=>(AV h 3 t).bind K)=K (.int .i64 m.fr):=APo 0 _ rfl (by rw[ABh];decide) rfl K
theorem APq {B:Type} {h:List V} {m:Msg} (K:V→Option B):(BH P 152 1 (.rop 152 (Aa m))).bind (fun t=>(AV h 3 t).bind K)=K (.int .i64 m.to):=APo 1 _ rfl (by rw[ABh];decide) rfl K
theorem VZ {l:List Msg} {i:Nat} (hi:i<l.length):(l.map Aa)[i]?=some (Aa (l.getD i default)):=by
 rw[AFP hi,List.getD_eq_getElem?_getD,List.getElem?_eq_getElem hi];rfl
theorem AM0 {h:List V} {id i:Nat} {g:Fl} {l:List Msg} {m:Msg} (hh:h[id]?=some (Aa m)) (hi:i<l.length) (hn:l.length≤1000000) (K:V→Option (V×List V)):
 Uy (Bl g l) (iv i) (.ref id [] 152) h K=K (.bool (decide (0<i)&&AFp (l.getD (i-1) default) m)):=by
 rw[Uy]
 by_cases h0:0<i
 ·refine(AMZ (by omega) _).trans ?_
  rw[BK]
  refine(IV (b:=1) (by omega) (by omega) _).trans<|(ACv Y8 (VZ (i:=i-1) (by omega)) _).trans<|(APp _).trans<|(ABz hh _).trans ?_
  by_cases h1:(l.getD (i-1) default).fr=m.fr
  ·refine(ARr h1 _).trans ?_
   rw[BK]
   refine(IV (b:=1) (by omega) (by omega) _).trans<|(ACv Y8 (VZ (i:=i-1) (by omega)) _).trans<|(APq _).trans<|(AB0 hh _).trans ?_
   refine(AA (b_eql _ _ _) _).trans ?_
   rw[AFp,decide_eq_true h0,decide_eq_true h1];rfl
  ·refine(ARs h1 _).trans ?_
   rw[BL,AFp,decide_eq_false h1];simp
 ·refine(AMa (by omega) _).trans ?_
  rw[BL,decide_eq_false h0];rfl
theorem AM1 (l:List Msg) (hn:l.length≤1000000) (g g':Fl):∀(n i:Nat),i+n=l.length→
 Ns cc (Bl g l) (Bl g' l) (iv l.length) (iv i) []=some (iv (if Hr l n i=true then 0 else 110),[]):=by
 intro n
 induction n with
 |zero=>
  intro i hi
  rw[PN,Ux]
  refine(Gm (by omega) _).trans ?_
  rw[BL,WE,Ko];rfl
 |succ n ih=>
  intro i hi
  have hlt:i<l.length:=by omega
  rw[PN,Ux]
  refine(GK (by omega) _).trans ?_
  rw[BK,AAb]
  refine(ACu Y8 (VZ hlt) _).trans<|(ldR _).trans ?_
  refine(AA (Eo (P:=P) (h:=[]++[zero P 152]) (id:=0) rfl (ABy _) rfl) _).trans ?_
  generalize hm:l.getD i default=m
  have hh:(([]++[zero P 152]:List V).set 0 (Aa m))[0]?=some (Aa m):=rfl
  refine(AM0 (id:=0) hh hlt hn _).trans ?_
  refine(AMz (id:=0) hh _ _).trans ?_
  rw[ZK,Hr,hm]
  generalize (decide (0<i)&&AFp (l.getD (i-1) default) m)=db at*
  by_cases hb:(!mR m||db)=true
  ·rw[if_pos hb,WB,Ko]
   have e:(!db&&mR m&&Hr l n (i+1))=false:=by
    cases h1:mR m<;>cases h2:db<;>simp[h1,h2]at hb⊢
   rw[e];rfl
  ·rw[if_neg hb,WC]
   refine(Fb (b:=1) (by omega) _).trans ?_
   have u:AZ (List.length ([]:List V)) [cc,Bl g l,Bl g' l,iv l.length,iv (i+1)]=true:=by
    simp only[AZ,Xq];rfl
   refine(if_pos u).trans ?_
   have e:(!db&&mR m&&Hr l n (i+1))=Hr l n (i+1):=by
    cases h1:mR m<;>cases h2:db<;>simp[h1,h2]at hb⊢
   rw[e]
   exact ih (i+1) (by omega)
theorem AFq {f:Fl} {l:List Msg} (hn:l.length≤1000000):Cl 127 [Bl f l] []=some (iv (if ADC l=true then 0 else 110),[]):=by
 rw[AHj,AAV,AAW,AAX]
 refine(ZC U9 _).trans ?_
 rw[List.length_map]
 by_cases h:l.length≤512
 ·refine(AMa (by omega) _).trans ?_
  rw[BL,AAZ]
  obtain⟨g,hg⟩:=JL [] f l
  rw[hg]
  refine(AA (Ob g l hn) _).trans ?_
  rw[AAa]
  refine(ZC U9 _).trans ?_
  rw[List.length_map]
  refine(AM1 (CQ l) (by rw[G6];exact hn) .sh .sh (CQ l).length 0 (by omega)).trans ?_
  rw[ADC,decide_eq_true h,G6,Bool.true_and]
 ·refine(AMZ (by omega) _).trans ?_
  rw[BK,AAY,Ko,ADC,decide_eq_false h];rfl
def AM2 (s:List UInt8):List UInt8:=BG s.length++s
def APr (l:List Msg):List UInt8:=BG l.length++((G7 l).map AM2).flatten
theorem AFr (n:Nat) (h:List V) (s:List UInt8) (x:Int):(if(List.all [V.int .i64 x,V.str s] V.okE)=true then AP n h (V.tup [.str s,.int .i64 x])else none)=some (.tup [.str s,.int .i64 x],h.take n):=rfl
theorem AM3 (rs:List (List UInt8)) (hr:∀r∈rs,r.length≤100) (hn:rs.length≤1000000):∀(n i:Nat) (done:List UInt8),i+n=rs.length→done.length≤200*i+100→
 Uo (DF 0) (sL .sh rs) (iv rs.length) (iv i) [BA .own done]=some (.tup [.str (done++((rs.drop i).map AM2).flatten),.int .i64 0],[]):=by
 intro n
 induction n with
 |zero=>
  intro i done hi hd
  rw[TD,Y5]
  refine(Gm (by omega) _).trans ?_
  rw[BL,AAG]
  refine(AA (Fh (id:=0) (h:=[BA .own done]) rfl) _).trans ?_
  refine(AFr _ _ _ _).trans ?_
  rw[List.drop_eq_nil_of_le (by omega)];simp
 |succ n ih=>
  intro i done hi hd
  have hlt:i<rs.length:=by omega
  have hg:(rs.map V.str)[i]?=some (V.str rs[i]):=by simp[hlt]
  have hl:=hr _ (List.getElem_mem hlt)
  have nb:=Ap 10 rs[i].length
  rw[TD,Y5]
  refine(GK (by omega) _).trans ?_
  rw[BK,AEO]
  refine(ACu ALs hg _).trans<|(ldR _).trans ?_
  rw[AEP]
  have e1:AQ [DF 0,V.str rs[i]]=[DF 0,V.str rs[i]]:=rfl
  rw[e1]
  refine(AA (Qu (id:=0) (h:=[BA .own done]) rfl (Or.inl rfl) (by omega)) _).trans ?_
  rw[AAF]
  refine(Fb (b:=1) (by omega) _).trans ?_
  have:=ih (i+1) (done++BG rs[i].length++rs[i]) (by omega) (by simp only[List.length_append,BG];omega)
  rw[List.drop_eq_getElem_cons hlt,List.map_cons,List.flatten_cons,AM2]
  simp only[List.append_assoc]at this⊢
  exact this
theorem AM4 {f:Fl} {l:List Msg} (hl:∀m∈l,MOk m) (hn:l.length≤1000000):
 Cl 61 [Bl f l] []=some (if ADC l=true then .tup [.str (APr l),.int .i64 0]else .tup [.str [],.int .i64 110],[]):=by
 rw[ALh,AEH,AEI]
 obtain⟨g0,hg0⟩:=AI6 f l
 obtain⟨g,hg⟩:=JL [] g0 l
 rw[hg0,hg]
 refine(AA (AFq hn) _).trans ?_
 rw[AEJ]
 by_cases hc:ADC l=true
 ·rw[if_pos hc,if_pos hc]
  refine(APK (by simp) _).trans ?_
  rw[BL,AEL]
  refine(AA (Gy _) _).trans ?_
  rw[AEM,hg0]
  refine(ACt U9 _).trans ?_
  rw[List.length_map]
  refine(ABu (by omega) (by omega) _).trans ?_
  have e1:AQ [DF ([]:List V).length,V.int .u64 ((l.length:Int).toNat:Int)]=[DF 0,V.int .u64 (l.length:Int)]:=rfl
  rw[e1]
  have nb:=Ap 10 l.length
  refine(AA (Dn (id:=0) (h:=[]++[BA .nil []]) rfl (Or.inr rfl) (by omega) (by simp)) _).trans ?_
  rw[AEN]
  obtain⟨g2,hg2⟩:=JL (([]++[BA .nil []]).set 0 (BA .own ([]++BG l.length))) f l
  rw[hg2]
  refine(AA (AB2 hl hn) _).trans ?_
  refine(ACt ALr _).trans ?_
  have hlen:(G7 l).length=l.length:=by rw[G7,List.length_map,G6]
  have:=AM3 (G7 l) (by
   intro r hr
   rw[G7]at hr
   obtain⟨m,_,rfl⟩:=List.mem_map.1 hr
   have:=Xp m;omega) (by omega) (G7 l).length 0 (BG l.length) (by omega) (by rw[BG];omega)
  rw[List.drop_zero]at this
  rw[List.length_map]
  exact this
 ·rw[if_neg hc,if_neg hc]
  refine(APJ (by simp) _).trans ?_
  rw[BK,AEK]
  exact AFr _ _ _ _
end
section
open Go AM
end
section
open Go AM
end
section
open Go AM
theorem ZX (l:List Msg):Short (G7 l):=by
 intro s hs
 obtain⟨m,_,rfl⟩:=List.mem_map.1 hs
 have:=Xp m;omega
theorem AFs (l:List Msg):(G7 l).length=l.length:=by rw[G7,List.length_map,G6]
def brootB (l:List Msg):List UInt8:=AFZ (G7 l)
theorem AFt {g:Fl} {l:List Msg} (hl:∀m∈l,MOk m) (hn:l.length≤1000000):Cl 34 [.lst 152 g (l.map Aa)] []=some (BR (brootB l),[]):=by
 have h:∀g,Cl 89 [.lst 152 g (l.map Aa)] []=some (.lst 9 .sh ((G7 l).map V.str),[]):=fun g=>AB2 hl hn
 rw[ALZ,MI]
 simp(disch:=first|assumption|omega|(with_reducible rfl)|(simp only[go_sem];done)|(simp only[go_sem];omega)|fail) only[↓reduceIte,↓AO,Nat.reduceAdd,go_sem,h,AB8 (l:=G7 l) (by rw[AFs];omega) (ZX l)]
 rfl
end
section
open Go AM
def Ea (l:List Msg):List UInt8×Nat:=if ADC l=true then(APr l,0)else([],110)
theorem ACE {f:Fl} {l:List Msg} (hl:∀m∈l,MOk m) (hn:l.length≤1000000):Cl 61 [.lst 152 f (l.map Aa)] []=some (.tup [.str (Ea l).1,.int .i64 ((Ea l).2:Int)],[]):=by
 refine(AM4 (f:=f) hl hn).trans ?_
 rw[Ea];split<;>rfl
@[go_sem] theorem AM5 (l:List Msg):(brootB l).length=32:=MJ _ _
end
section
open Go AM
theorem ACF (a b:Msg):Jq (Aa a) (Aa b)=some (decide (a=b)):=by
 simp only[Aa,Jq,Le,if_true,Option.bind_some]
 by_cases h1:a.fr=b.fr<;>by_cases h2:a.to=b.to<;>by_cases h3:a.val=b.val<;>cases a<;>cases b<;>simp_all
@[go_sem] theorem eqM (a b:Msg):eqT (tyG 151) .eql (Aa a) (Aa b)=some (.bool (decide (a=b))):=by
  simp only[eqT,XW,Bool.and_self,if_true,ACF,Option.map_some]
@[go_sem] theorem neM (a b:Msg):eqT (tyG 151) .neq (Aa a) (Aa b)=some (.bool (!decide (a=b))):=by
  simp only[eqT,XW,Bool.and_self,if_true,ACF,Option.map_some]
end
section
open Go AM
end
section
open Go AM
structure Cmt where
 wk:Int
 st:Int
 root:List UInt8
 bt:List (List UInt8)
 deriving DecidableEq
def Ky (c:Cmt):Prop:=I64 c.wk∧I64 c.st∧c.root.length=32∧(∀h∈c.bt,h.length=32)∧c.bt.length≤1000000
abbrev tCm:TypeId:=76
abbrev vC (f:Fl) (c:Cmt):V:= .agg tCm [.int .i64 c.wk,.int .i64 c.st,BR c.root,.lst 66 f (c.bt.map BR)]
def Ht (c:Cmt):Bool:=Vs c.wk&&Vs c.st&&(decide (1≤c.bt.length)&&decide (c.bt.length≤64))
theorem AR2 (x a b:Int):Cl 173 [.int .i64 x,.int .i64 a,.int .i64 b] []=some (.bool (decide (a≤x)&&decide (x≤b)),[]):=by
 rw[AH1]
 by_cases h:a≤x
 ·simp(disch:=first|assumption|omega|(with_reducible rfl)|(simp only[go_sem];done)|(simp only[go_sem];omega)|fail) only[↓reduceIte,↓AO,Nat.reduceAdd,go_sem]
  rw[decide_eq_true h];rfl
 ·simp(disch:=first|assumption|omega|(with_reducible rfl)|(simp only[go_sem];done)|(simp only[go_sem];omega)|fail) only[↓reduceIte,↓AO,Nat.reduceAdd,go_sem]
  rw[decide_eq_false h];rfl
theorem AM6 {h:List V} (x a b:Int) (k:V→List V→Rv):BI P CJ W (.clo 173 []) [.int .i64 x,.int .i64 a,.int .i64 b] h k=k (.bool (decide (a≤x)&&decide (x≤b))) h:=by
 rw[JE _ (by kernel_rfl) (by kernel_rfl)]
 simp(disch:=first|assumption|omega|(with_reducible rfl)|(simp only[go_sem];done)|(simp only[go_sem];omega)|fail) only[↓reduceIte,↓AO,Nat.reduceAdd,go_sem,AR2]
theorem YH {c:Cmt} (h:Ky c):Cl 125 [vC .sh c] []=some (.bool (Ht c),[]):=by
 rw[AHh]
 by_cases h1:Vs c.wk=true
 ·have e1:(decide (0≤c.wk)&&decide (c.wk≤63))=true:=by simp only[Vs,Bool.and_eq_true,decide_eq_true_eq]at h1⊢;omega
  by_cases h2:Vs c.st=true
  ·have e2:(decide (0≤c.st)&&decide (c.st≤63))=true:=by simp only[Vs,Bool.and_eq_true,decide_eq_true_eq]at h2⊢;omega
   simp(disch:=first|assumption|omega|(with_reducible rfl)|(simp only[go_sem];done)|(simp only[go_sem];omega)|fail) only[↓reduceIte,↓AO,Nat.reduceAdd,go_sem,AM6,e1,e2]
   rw[Ht,h1,h2]
   congr 3
   rw[Bool.eq_iff_iff];simp;omega
  ·have e2:(decide (0≤c.st)&&decide (c.st≤63))=false:=by
    rw[Bool.eq_false_iff];intro h;apply h2;simp only[Vs,Bool.and_eq_true,decide_eq_true_eq]at h⊢;omega
   simp(disch:=first|assumption|omega|(with_reducible rfl)|(simp only[go_sem];done)|(simp only[go_sem];omega)|fail) only[↓reduceIte,↓AO,Nat.reduceAdd,go_sem,AM6,e1,e2]
   rw[Ht,h1,show Vs c.st=false by simpa using h2];rfl
 ·have e1:(decide (0≤c.wk)&&decide (c.wk≤63))=false:=by
   rw[Bool.eq_false_iff];intro h;apply h1;simp only[Vs,Bool.and_eq_true,decide_eq_true_eq]at h⊢;omega
  simp(disch:=first|assumption|omega|(with_reducible rfl)|(simp only[go_sem];done)|(simp only[go_sem];omega)|fail) only[↓reduceIte,↓AO,Nat.reduceAdd,go_sem,AM6,e1]
  rw[Ht,show Vs c.wk=false by simpa using h1];rfl
def AFu (c:Cmt):List UInt8:=[67]++BG c.wk.toNat++BG c.st.toNat++c.root++BG c.bt.length
def AKw (c:Cmt):List UInt8:=AFu c++c.bt.flatten
def Q8 (c:Cmt):List UInt8×Nat:=if Ht c=true then(AKw c,0)else([],120)
theorem APs:BG 67=[67]:=by decide+kernel
theorem AJU {a:V} {bt:List (List UInt8)} (hb:∀h∈bt,h.length=32) (hn:bt.length≤1000000):∀(n i:Nat) (l:List UInt8),i+n=bt.length→l.length≤1000+32*i→
 Un (DF 1) (.lst 66 .sh (bt.map BR)) (.int .i64 (bt.length:Int)) (.int .i64 (i:Int)) [a,BA .own l]=some (.tup [.str (l++(bt.drop i).flatten),.int .i64 0],[]):=by
 intro n
 induction n with
 |zero=>
  intro i l hi hl
  rw[List.drop_eq_nil_of_le (by omega),List.flatten_nil,List.append_nil,TB]
  simp(disch:=first|assumption|omega|(with_reducible rfl)|(simp only[go_sem];done)|(simp only[go_sem];omega)|fail) only[↓reduceIte,↓AO,Nat.reduceAdd,go_sem,UA]
 |succ n ih=>
  intro i l hi hl
  have h:i<bt.length:=by omega
  have hx:=hb _ (List.getElem_mem h)
  have:=ih (i+1) (l++bt[i]) (by omega) (by simp;omega)
  rw[List.drop_eq_getElem_cons h,List.flatten_cons,←List.append_assoc,←this,TB,Oc]
  simp(disch:=first|assumption|omega|(with_reducible rfl)|(simp only[go_sem];done)|(simp only[go_sem];omega)|fail) only[↓reduceIte,↓AO,Nat.reduceAdd,go_sem,AMi h,ZU hx]
theorem ACG {c:Cmt} (h:Ky c):Cl 60 [vC .sh c] []=some (.tup [.str (Q8 c).1,.int .i64 ((Q8 c).2:Int)],[]):=by
 obtain⟨h1,h2,h3,h4,h5⟩:=h
 have hr:=YH ⟨h1,h2,h3,h4,h5⟩
 by_cases hc:Ht c=true
 ·rw[Q8,if_pos hc]
  have hc':=hc
  simp only[Ht,Vs,Bool.and_eq_true,decide_eq_true_eq]at hc'
  obtain⟨⟨⟨a1,a2⟩,a3,a4⟩,a5,a6⟩:=hc'
  have b1:(BG c.wk.toNat).length≤10:=Ap 10 _
  have b2:(BG c.st.toNat).length≤10:=Ap 10 _
  have b3:(BG c.bt.length).length≤10:=Ap 10 _
  have hl:=AJU (a:=vC .sh c) h4 h5 c.bt.length 0 (AFu c) (by omega) (by simp only[AFu,List.length_append,List.length_cons,List.length_nil];omega)
  rw[AEG]
  have e67:BG (Int.toNat 67)=[67]:=APs
  have en:(c.bt.length:Int).toNat=c.bt.length:=by omega
  simp only[AFu,List.cons_append,List.nil_append,List.append_assoc,List.drop_zero,c0]at hl
  simp(disch:=first|assumption|omega|(with_reducible rfl)|(simp only[go_sem];done)|(simp only[go_sem];omega)|fail) only[↓reduceIte,↓AO,Nat.reduceAdd,go_sem,hr,hc,Xz,IZ AFa,IZ Q7,AC4 h3,e67,en,hl]
  simp only[AKw,AFu,List.cons_append,List.nil_append,List.append_assoc]
  rfl
 ·rw[Q8,if_neg hc,AEG]
  simp(disch:=first|assumption|omega|(with_reducible rfl)|(simp only[go_sem];done)|(simp only[go_sem];omega)|fail) only[↓reduceIte,↓AO,Nat.reduceAdd,go_sem,hr]
  rfl
end
section
open Go AM
end
section
open Go AM
def cz:Cmt:=⟨0,0,z32,[]⟩
theorem AKx:Ky cz:=⟨by simp[I64,cz],by simp[I64,cz],rfl,by simp[cz],by simp[cz]⟩
def vGC (r:Cmt×Nat):V:= .tup [vC .sh r.1,.int .i64 (r.2:Int)]
section
variable {a b c:V} {s:List UInt8} {e:Nat}
end
end
section
open Go AM
def mB (l:List Msg):V:= .lst 152 .sh (l.map Aa)
abbrev vBs (f:Fl) (L:List (List Msg)):V:= .lst 39 f (L.map mB)
def AJV (L:List (List Msg)):Prop:=(∀l∈L,(∀m∈l,MOk m)∧l.length≤1000000)∧L.length≤1000
theorem APu {L:List (List Msg)} {i:Nat} (h:i<L.length):(L.map mB)[i]?=some (mB L[i]):=by simp[h]
@[go_sem] theorem AQs (l:List Msg):(mB l).weak=mB l:=(rfl)
@[go_sem] theorem AQt (l:List Msg):(mB l).norm=mB l:=(rfl)
theorem UD (l:List Msg):(brootB l).length=32:=MJ _ _
theorem ML (l:List Vtx):(vrootB l).length=32:=MJ _ _
attribute [local irreducible] brootB vrootB
theorem AJW {l:List Msg} (hl:∀m∈l,MOk m) (hn:l.length≤1000000):Cl 34 [mB l] []=some (BR (brootB l),[]):=AFt hl hn
theorem AJX {a:V} (ha:a.away 1=true) {f:Fl} {c:Cmt} {l:List Msg} (hl:∀m∈l,MOk m) (hn:l.length≤1000000) (k:V→List V→Rv):
 Dk P CJ W (some (.ref 1 [] 77)) (.clo 34 []) [mB l] [a,vC f c] k=k (BR (brootB l)) [a,vC f c]:=by
 have w:Bo 1 [a,void]=true:=by simp only[Bo,ha,Bool.true_and];rfl
 simp only[Dk,List.getElem?_cons_succ,List.getElem?_cons_zero,List.set_cons_succ,List.set_cons_zero,w]
 rw[if_pos (show(V.away 1 (.clo 34 [])&&Bo 1 [mB l]&&true)=true from rfl),JE _ (by kernel_rfl) (by kernel_rfl)]
 have e1:AB [a,void] ([mB l]++[])=[mB l]:=rfl
 rw[e1]
 refine(AA (AJW hl hn) _).trans ?_
 rw[if_pos (by rw[(V.PF _ (VO _)).away,w];rfl)];rfl
def mkC (w st:Int) (l:List Vtx) (L:List (List Msg)):Cmt:=⟨w,st,vrootB l,L.map brootB⟩
theorem AJY {a:V} {f:Fl} {c:Cmt} (K:V×List V→Rv):(BN [a,vC f c] 49 (.ref 1 [3] 49)).bind K=K (.lst 66 f (c.bt.map BR),[a,vC f.wk c]):=by
 have:BN [a,vC f c] 49 (.ref 1 [3] 49)=some (.lst 66 f (c.bt.map BR),[a,vC f.wk c]):=by
  simp only[BN,if_true,rd,wr,List.getElem?_cons_succ,List.getElem?_cons_zero,Option.bind_some,V.at,V.upd,TP,Option.map_some,List.set_cons_succ,List.set_cons_zero]
 rw[this];rfl
theorem AFv {w st:Int} (hw:I64 w) (hs:I64 st) (l:List Vtx) {L:List (List Msg)} (hL:AJV L):Ky (mkC w st l L):=by
 simp only[Ky,mkC]
 refine⟨hw,hs,ML l,?_,?_⟩
 ·intro h hh
  obtain⟨x,_,rfl⟩:=List.mem_map.1 hh
  exact UD x
 ·have:=hL.2
  simp only[List.length_map];omega
def okR (c:Cmt):Cmt×Nat:=if Ht c=true then(c,0)else(cz,120)
theorem AJZ {w st:Int} {r:List UInt8} (hw:I64 w) (hs:I64 st) (hr:r.length=32) {L:List (List Msg)} (hL:AJV L):∀(n i:Nat) (f:Fl) (bt:List (List UInt8)),i+n=L.length→bt.length=i→(∀h∈bt,h.length=32)→(f= .own∨f= .nil)→
 Um (.ref 0 [] 77) (.ref 1 [] 77) (vBs .sh L) (.int .i64 (L.length:Int)) (.int .i64 (i:Int)) [vC .nil cz,vC f ⟨w,st,r,bt⟩]=
  some (vGC (okR ⟨w,st,r,bt++(L.drop i).map brootB⟩),[]):=by
 have h1000:=hL.2
 intro n
 induction n with
 |zero=>
  intro i f bt hi hb hbt hf
  rw[List.drop_eq_nil_of_le (by omega),List.map_nil,List.append_nil]
  have hok:Ky ⟨w,st,r,bt⟩:=by
   simp only[Ky]
   exact⟨hw,hs,hr,hbt,by omega⟩
  have hr:=YH hok
  rw[okR,vGC]
  generalize Cmt.mk w st r bt=c at*
  by_cases hc:Ht c=true
  ·rw[if_pos hc,Ls,Oc]
   rcases hf with rfl|rfl
   ·simp(disch:=first|assumption|omega|(with_reducible rfl)|(simp only[go_sem];done)|(simp only[go_sem];omega)|fail) only[↓reduceIte,↓AO,Nat.reduceAdd,go_sem,hr,hc]
    rfl
   ·simp(disch:=first|assumption|omega|(with_reducible rfl)|(simp only[go_sem];done)|(simp only[go_sem];omega)|fail) only[↓reduceIte,↓AO,Nat.reduceAdd,go_sem,hr,hc]
    rfl
  ·rw[if_neg hc,Ls,Oc]
   rcases hf with rfl|rfl
   ·simp(disch:=first|assumption|omega|(with_reducible rfl)|(simp only[go_sem];done)|(simp only[go_sem];omega)|fail) only[↓reduceIte,↓AO,Nat.reduceAdd,go_sem,hr,hc]
    rfl
   ·simp(disch:=first|assumption|omega|(with_reducible rfl)|(simp only[go_sem];done)|(simp only[go_sem];omega)|fail) only[↓reduceIte,↓AO,Nat.reduceAdd,go_sem,hr,hc]
    rfl
 |succ n ih=>
  intro i f bt hi hb hbt hf
  have h:i<L.length:=by omega
  obtain⟨m1,m2⟩:=hL.1 _ (List.getElem_mem h)
  have hbl:=UD L[i]
  have:=ih (i+1) .own (bt++[brootB L[i]]) (by omega) (by simp;omega) (by
   intro x hx
   rcases List.mem_append.1 hx with hx|hx
   ·exact hbt x hx
   ·rw[List.mem_singleton.1 hx];exact hbl) (Or.inl rfl)
  have e:bt++[brootB L[i]]++(L.drop (i+1)).map brootB=bt++(L.drop i).map brootB:=by
   rw[List.drop_eq_getElem_cons h,List.map_cons,List.append_assoc];rfl
  rw[e]at this
  rw[←this,Ls]
  have sb:Dv (.ref 1 [] 77) (.ref 1 [3] 49)=true:=rfl
  have hv:vC .own ⟨w,st,r,bt++[brootB L[i]]⟩= .agg tCm [.int .i64 w,.int .i64 st,BR r,.lst 66 .own (bt.map BR++[BR (brootB L[i])])]:=by simp[vC]
  rw[hv]
  have hx:=APu h
  refine(AA (show AL .lss (.int .i64 (i:Int)) (.int .i64 (L.length:Int))=some (.bool true)by rw[b_lss,decide_eq_true (by omega)]) _).trans ?_
  rw[Ag]
  have ix:Eg 39 (vBs .sh L) (.int .i64 (i:Int))=some (.rop 39 (mB L[i])):=by rw[EQ,hx];rfl
  refine(AA ix _).trans ?_
  refine(AA (show CW _ 39 (.rop 39 (mB L[i]))=some (mB L[i])from rfl) _).trans ?_
  refine(AA (ALy ..) _).trans ?_
  refine(if_pos sb).trans ?_
  refine(AJY _).trans ?_
  refine(AJX rfl m1 m2 _).trans ?_
  rcases hf with rfl|rfl
  ·simp(disch:=first|assumption|omega|(with_reducible rfl)|(simp only[go_sem];done)|(simp only[go_sem];omega)|fail) only[↓reduceIte,↓AO,Nat.reduceAdd,go_sem]
  ·simp(disch:=first|assumption|omega|(with_reducible rfl)|(simp only[go_sem];done)|(simp only[go_sem];omega)|fail) only[↓reduceIte,↓AO,Nat.reduceAdd,go_sem]
theorem ACI {w st:Int} (hw:I64 w) (hs:I64 st) {l:List Vtx} (hl:∀x∈l,JI x) (hn:l.length≤1000000) {L:List (List Msg)} (hL:AJV L):
 Cl 59 [.int .i64 w,.int .i64 st,.lst 86 .sh (l.map Ci),vBs .sh L] []=some (vGC (okR (mkC w st l L)),[]):=by
 have h1000:=hL.2
 have hv:=AFe hl hn
 have h:=AJZ hw hs (ML l) hL L.length 0 .nil [] (by omega) rfl (by simp) (Or.inr rfl)
 have hrl:=ML l
 rw[List.nil_append,List.drop_zero]at h
 simp only[c0,List.map_nil]at h
 rw[mkC,←h,ALg,Oc]
 generalize vrootB l=r at*
 simp(disch:=first|assumption|omega|(with_reducible rfl)|(simp only[go_sem];done)|(simp only[go_sem];omega)|fail) only[↓reduceIte,↓AO,Nat.reduceAdd,go_sem,hv,VO,ABt]
 rfl
end
section
open Go AM
theorem AM8 {f:FuncId} {e:TypeId} (ht:CJ.two f=true) (h1:Cl f [.lst e .nil []] []=some (.lst e .sh [],[])) (h2:Cl f [.lst e .non []] []=some (.lst e .sh [],[])):CT f [.lst e .sh []]=some (.lst e .sh [],[]):=by
 show GN CJ W f _=_
 unfold GN
 rw[ht]
 show(Cl f [.lst e .nil []] []).bind _=_
 rw[h1]
 show(Cl f [.lst e .non []] []).bind _=_
 rw[h2]
 show(AD5 (.lst e .sh []) (.lst e .sh [])).bind _=_
 simp[AD5]
theorem AJa {f:FuncId} {e:TypeId} {x:V} {xs:List V} (ht:CJ.two f=true):CT f [.lst e .sh (x::xs)]=Cl f [.lst e .sh (x::xs)] []:=by
 show GN CJ W f _=_
 unfold GN
 rw[ht];rfl
theorem ADF {l:List E0} (hl:l.length≤1000000):CT 43 [.lst 96 .sh (l.map D7)]=some (.lst 96 .sh (l.map D7),[]):=by
 cases l with
 |nil=>
  refine AM8 (by kernel_rfl) ?_ ?_
  ·rw[Y4];rfl
  ·rw[Y4];rfl
 |cons x l=>
  rw[List.map_cons,AJa (by kernel_rfl)]
  have ap:∀h:List V,Gv 96 (tyG 95) false h (.lst 96 .own []) (.lst 96 .sh (D7 x::l.map D7))=some (.lst 96 .own ((x::l).map D7)):=fun h=>by
   rw[show D7 x::l.map D7=(x::l).map D7 from rfl,Dt (V.PFL _ (AB3 (x::l))).clean (all_map AB4 _) (by simp at hl⊢;omega),List.nil_append];rfl
  have en:ND .eql (.lst 96 .sh (D7 x::l.map D7)) (.lst 96 .nil [])=some (.bool false):=rfl
  rw[Y4]
  simp(disch:=first|assumption|omega|(with_reducible rfl)|(simp only[go_sem];done)|(simp only[go_sem];omega)|fail) only[↓reduceIte,↓AO,Nat.reduceAdd,go_sem,ap,en]
  rfl
end
section
open Go AM
abbrev kE (e:E0):Int×Int:=(e.fr,e.to)
theorem AFw (es:List E0) {i:Nat} (h:i<es.length):((es.take (i+1)).map kE).Nodup↔((es.take i).map kE).Nodup∧(es.take i).any (fun x=>decide (kE x=kE es[i]))=false:=by
 rw[List.take_add_one,List.getElem?_eq_getElem h,Option.toList_some,List.map_append,List.nodup_append]
 simp only[List.map_cons,List.map_nil,List.nodup_cons,List.not_mem_nil,not_false_eq_true,List.nodup_nil,and_self,true_and,List.mem_cons,or_false]
 refine and_congr_right fun _=> ?_
 rw[List.any_eq_false]
 constructor
 ·intro h x hx;simp only[decide_eq_true_eq];exact fun e=>h (kE x) (List.mem_map_of_mem hx) _ rfl e
 ·rintro h a ha b rfl e
  obtain⟨x,hx,rfl⟩:=List.mem_map.1 ha
  exact h x hx (decide_eq_true e)
theorem APv {g:Grf} (hl:g.es.length<1000000) {i:Nat} (hi:i<g.es.length):∀(n k:Nat) (b:Bool),k+n=i→
 Uu rG (.bool b) (.int .i64 (i:Int)) (.ref 1 [] 96) (.int .i64 (k:Int)) 1 [vG .sh g,D7 g.es[i]]=
  Ov rG (.bool (b||((g.es.take i).drop k).any (fun x=>decide (kE x=kE g.es[i])))) (.int .i64 ((i+1:Nat):Int)) [vG .sh g]:=by
 intro n
 induction n with
 |zero=>
  intro k b hk
  rw[List.drop_eq_nil_of_le (by simp;omega),List.any_nil,Bool.or_false,TI]
  simp(disch:=first|assumption|omega|(with_reducible rfl)|(simp only[go_sem];done)|(simp only[go_sem];omega)|fail) only[↓reduceIte,↓AO,Nat.reduceAdd,go_sem]
 |succ n ih=>
  intro k b hk
  have hk2:k<g.es.length:=by omega
  have hx:=Xu hk2
  have hlen:k<(g.es.take i).length:=by simp;omega
  have hd:(g.es.take i).drop k=g.es[k]::(g.es.take i).drop (k+1):=by
   rw[List.drop_eq_getElem_cons hlen,List.getElem_take]
  rw[hd,List.any_cons,TI]
  cases b with
  |true=>
   have:=ih (k+1) true (by omega)
   rw[Bool.true_or]at this⊢
   rw[←this]
   simp(disch:=first|assumption|omega|(with_reducible rfl)|(simp only[go_sem];done)|(simp only[go_sem];omega)|fail) only[↓reduceIte,↓AO,Nat.reduceAdd,go_sem]
  |false=>
   rw[Bool.false_or]
   by_cases h1:g.es[k].fr=g.es[i].fr
   ·by_cases h2:g.es[k].to=g.es[i].to
    ·have:=ih (k+1) true (by omega)
     rw[Bool.true_or]at this
     rw[decide_eq_true (show kE g.es[k]=kE g.es[i]by rw[kE,h1,h2]),Bool.true_or,←this]
     generalize hek:g.es[k]=a at*
     generalize hei:g.es[i]=c at*
     simp only[D7]at hx⊢
     simp(disch:=first|assumption|omega|(with_reducible rfl)|(simp only[go_sem];done)|(simp only[go_sem];omega)|fail) only[↓reduceIte,↓AO,Nat.reduceAdd,go_sem,hx,h1,h2,decide_true]
    ·have:=ih (k+1) false (by omega)
     rw[Bool.false_or]at this
     rw[decide_eq_false (show ¬kE g.es[k]=kE g.es[i]from fun e=>h2 (Prod.mk.inj e).2),Bool.false_or,←this]
     generalize hek:g.es[k]=a at*
     generalize hei:g.es[i]=c at*
     simp only[D7]at hx⊢
     simp(disch:=first|assumption|omega|(with_reducible rfl)|(simp only[go_sem];done)|(simp only[go_sem];omega)|fail) only[↓reduceIte,↓AO,Nat.reduceAdd,go_sem,hx,h1,decide_eq_false h2]
   ·have:=ih (k+1) false (by omega)
    rw[Bool.false_or]at this
    rw[decide_eq_false (show ¬kE g.es[k]=kE g.es[i]from fun e=>h1 (Prod.mk.inj e).1),Bool.false_or,←this]
    generalize hek:g.es[k]=a at*
    generalize hei:g.es[i]=c at*
    simp only[D7]at hx⊢
    simp(disch:=first|assumption|omega|(with_reducible rfl)|(simp only[go_sem];done)|(simp only[go_sem];omega)|fail) only[↓reduceIte,↓AO,Nat.reduceAdd,go_sem,hx]
def r5 (g:Grf) (i:Nat):Int:=if(g.es.drop i).any (E8 g.n)=true then 50 else if(g.es.map kE).Nodup then 0 else 51
theorem APw {g:Grf} (hl:g.es.length<1000000):∀(n i:Nat) (b:Bool),i+n=g.es.length→b= !decide ((g.es.take i).map kE).Nodup→
 Ov rG (.bool b) (.int .i64 (i:Int)) [vG .sh g]=some (.int .i64 (r5 g i),[]):=by
 intro n
 induction n with
 |zero=>
  intro i b hi hb
  rw[List.take_of_length_le (by omega)]at hb
  rw[r5,List.drop_eq_nil_of_le (by omega),List.any_nil,TJ]
  by_cases hn:(g.es.map kE).Nodup
  ·rw[decide_eq_true hn]at hb
   subst hb
   rw[if_pos hn]
   simp(disch:=first|assumption|omega|(with_reducible rfl)|(simp only[go_sem];done)|(simp only[go_sem];omega)|fail) only[↓reduceIte,↓AO,Nat.reduceAdd,go_sem]
   rfl
  ·rw[decide_eq_false hn]at hb
   subst hb
   rw[if_neg hn]
   simp(disch:=first|assumption|omega|(with_reducible rfl)|(simp only[go_sem];done)|(simp only[go_sem];omega)|fail) only[↓reduceIte,↓AO,Nat.reduceAdd,go_sem]
   rfl
 |succ n ih=>
  intro i b hi hb
  have h:i<g.es.length:=by omega
  have hx:=Xu h
  have l2:=APv hl h i 0 b (by omega)
  rw[List.drop_zero]at l2
  have hk:=AFw g.es h
  have ih':=ih (i+1) (b||(g.es.take i).any (fun x=>decide (kE x=kE g.es[i]))) (by omega) (by
   subst hb
   rw[Bool.eq_iff_iff]
   by_cases p:((g.es.take i).map kE).Nodup<;>cases q:(g.es.take i).any (fun x=>decide (kE x=kE g.es[i]))<;>simp_all)
  rw[ih']at l2
  have hbad:E8 g.n g.es[i]=true→r5 g i=50:=fun ho=>by rw[r5,List.drop_eq_getElem_cons h,List.any_cons,ho];rfl
  have hok:E8 g.n g.es[i]=false→r5 g i=r5 g (i+1):=fun ho=>by rw[r5,r5,List.drop_eq_getElem_cons h,List.any_cons,ho];rfl
  generalize r5 g i=r at*
  generalize r5 g (i+1)=r' at*
  generalize he:g.es[i]=e at*
  rw[TJ]
  simp only[D7,c0]at hx l2
  repeat' first|rfl|refine ZO (fun _=> ?_) (fun _=> ?_)|refine ZP (fun _=> ?_) (fun _=> ?_)|simp(disch:=first|assumption|omega|(with_reducible rfl)|(simp only[go_sem];done)|(simp only[go_sem];omega)|fail) only[↓reduceIte,↓AO,Nat.reduceAdd,go_sem,hx,l2]
  all_goals simp only[E8]at hbad hok
  all_goals simp_all
  all_goals omega
theorem AJb {g:Grf} (hl:g.es.length<1000000):Cl 95 [vG .sh g] []=some (.int .i64 (FB g),[]):=by
 have h:=APw hl g.es.length 0 false (by omega) (by simp)
 simp only[c0]at h
 have e:∀(a:1≤g.n) (b:g.n≤64) (c:g.es.length≤512),FB g=r5 g 0:=by
  intro a b c
  rw[FB,r5,List.drop_zero]
  by_cases ho:g.es.any (E8 g.n)=true
  ·rw[if_neg (fun h=>by rw[ho]at h;cases h.2.2.2),if_pos ho]
  ·rw[if_pos ⟨a,b,c,by simpa using ho⟩,if_neg ho]
 by_cases h1:g.n<1
 ·rw[FB,if_neg (by omega),Uw]
  simp(disch:=first|assumption|omega|(with_reducible rfl)|(simp only[go_sem];done)|(simp only[go_sem];omega)|fail) only[↓reduceIte,↓AO,Nat.reduceAdd,go_sem]
 by_cases h2:64<g.n
 ·rw[FB,if_neg (by omega),Uw]
  simp(disch:=first|assumption|omega|(with_reducible rfl)|(simp only[go_sem];done)|(simp only[go_sem];omega)|fail) only[↓reduceIte,↓AO,Nat.reduceAdd,go_sem]
 by_cases h3:512<g.es.length
 ·rw[FB,if_neg (by omega),Uw]
  simp(disch:=first|assumption|omega|(with_reducible rfl)|(simp only[go_sem];done)|(simp only[go_sem];omega)|fail) only[↓reduceIte,↓AO,Nat.reduceAdd,go_sem]
 rw[e (by omega) (by omega) (by omega),Uw]
 simp(disch:=first|assumption|omega|(with_reducible rfl)|(simp only[go_sem];done)|(simp only[go_sem];omega)|fail) only[↓reduceIte,↓AO,Nat.reduceAdd,go_sem,h]
end
section
open Go AM
theorem ZY {g:Grf} (hl:g.es.length<1000000) (j:Job):Cl 37 [vG .sh g,vJ j] []=some (.bool (EX g j),[]):=by
 have hg:=AJb hl
 rw[ALa]
 repeat' first|rfl|refine ZO (fun _=> ?_) (fun _=> ?_)|refine ZP (fun _=> ?_) (fun _=> ?_)|simp(disch:=first|assumption|omega|(with_reducible rfl)|(simp only[go_sem];done)|(simp only[go_sem];omega)|fail) only[↓reduceIte,↓AO,Nat.reduceAdd,go_sem,hg,AC5]
 all_goals (rw[EX];simp_all)
 all_goals omega
end
section
open Go AM
def sS (l:List (List UInt8)):V:= .lst 9 .sh (l.map V.str)
@[go_sem] theorem AQu (l:List (List UInt8)):(sS l).weak=sS l:=(rfl)
@[go_sem] theorem APx (l:List (List UInt8)):(sS l).pl=true:=AFX l
@[go_sem] theorem AR3 (l:List (List (List UInt8))):IA (l.map sS)=true:=CX APx l
@[go_sem] theorem AN7 (l:List Bool):IA (l.map V.bool)=true:=CX (fun _=>rfl) l
@[go_sem] theorem AM9 (l:List (List UInt8)):tyL 9 (sS l)=true:=(rfl)
@[go_sem] theorem AR4 (l:List (List (List UInt8))):(l.map sS).all (tyL 9)=true:=all_map AM9 l
@[go_sem] theorem AN8 (l:List Bool):(l.map V.bool).all AM.tyB=true:=all_map (fun _=>rfl) l
@[go_sem] theorem AN9 (l:List (List UInt8)):IA (l.map BR)=true:=CX VO l
theorem Za {f:FuncId} {id:Nat} {p:List Nat} {t:TypeId} {vs vs' h:List V} {v r:V} (he:CJ.ext f=false) (hp:CJ.pure f=true) (hh:h[id]?=some v) (haw:Bo id (h.set id void)=true)
 (hv:Bo id vs=true) (hrf:AB (h.set id void) vs=vs') (hr:r.away id=true) (e:Cl f vs' []=some (r,[])) (k:V→List V→Rv) (hs:(CJ.seq f).1=0:=by kernel_rfl) (ht:CJ.two f=false:=by kernel_rfl):
 Dk P CJ W (some (.ref id p t)) (.clo f []) vs h k=k r h:=by
 have hlt:=Qd hh
 simp only[Dk,hh,haw,hv]
 rw[if_pos (show(V.away id (.clo f [])&&true&&true)=true from rfl),JE _ he hp hs ht,List.append_nil,hrf]
 refine(AA e _).trans ?_
 rw[if_pos (by rw[hr,haw,List.length_set];simp only[Bool.true_and];exact Nat.ble_eq_true_of_le hlt),List.set_set]
 congr 1
 exact(List.ext_getElem? fun i=>by
  by_cases hi:i=id
  ·subst hi;rw[List.getElem?_set_self hlt,hh]
  ·rw[List.getElem?_set_ne (Ne.symm hi)])
theorem AFx {h:List V} {id i:Nat} {u e t:TypeId} {f:Fl} {fs xs:List V} (hh:h[id]?=some (.agg u fs)) (hf:fs[i]?=some (.lst e f xs)):BN h t (.ref id [i] t)=some (.lst e f xs,h.set id (.agg u (fs.set i (.lst e f.wk xs)))):=by
 simp only[BN,if_true,rd,wr,hh,Option.bind_some,V.at,V.upd,hf,TP,Option.map_some]
@[go_sem] theorem AR5 (t u:TypeId) (xs ys:List V):SC true [.lst t .own xs,.lst u .own ys]=true:=(rfl)
@[go_sem] theorem AR6 (t u:TypeId) (xs ys:List V):SC true [.lst t .nil xs,.lst u .own ys]=true:=(rfl)
def Zb (g:Grf) (j:Job) (N w:Nat):List Vtx:=(ofL g.n.toNat N w).map fun(v:Nat)=>firstX j (v:Int)
theorem ADG (j:Job) {v:Nat} (hv:v<64):JI (firstX j (v:Int)):=by
 have: -9223372036854775808≤(37*(v:Int)+11).tmod 64∧(37*(v:Int)+11).tmod 64<9223372036854775808:=by
  rw[Int.tmod_eq_emod_of_nonneg (by omega)];omega
 simp only[JI,firstX,I64]
 repeat' split
 all_goals (simp only[];omega)
theorem AJc {g:Grf} (hg:g.n≤64) (j:Job) (N w:Nat):∀x∈Zb g j N w,JI x:=by
 intro x hx
 obtain⟨v,hv,rfl⟩:=List.mem_map.1 hx
 have:=AFi hv
 exact ADG j (by omega)
theorem AFy (g:Grf) (j:Job) (N w:Nat):(Zb g j N w).length≤g.n.toNat:=by
 rw[Zb,List.length_map];exact VY _ _ _
attribute [local irreducible] vrootB vtxB firstX
theorem ACJ {g:Grf} {j:Job} (hj:EX g j=true):1≤g.n∧g.n≤64:=by
 have hg:FB g=0:=(of_decide_eq_true hj).1
 rw[FB]at hg
 by_cases h:1≤g.n∧g.n≤64∧g.es.length≤512∧g.es.any (E8 g.n)=false
 ·exact⟨h.1,h.2.1⟩
 ·rw[if_neg h]at hg;omega
theorem AFz {g:Grf} (hl:g.es.length<1000000):Cl 12 [vG .sh g] []=some (vG .sh g,[]):=by
 rw[ALV]
 have ap:∀h:List V,Gv 96 (tyG 95) false h (.lst 96 .own []) (.lst 96 .sh (g.es.map D7))=some (.lst 96 .own ([]++g.es.map D7)):=fun h=>
  Dt (V.PFL _ (AB3 g.es)).clean (all_map AB4 _) (by simp;omega) _ _ _
 simp(disch:=first|assumption|omega|(with_reducible rfl)|(simp only[go_sem];done)|(simp only[go_sem];omega)|fail) only[↓reduceIte,↓AO,Nat.reduceAdd,go_sem,ap]
end
section
open Go AM
abbrev tWk:TypeId:=102
abbrev vWk (g:Grf) (j:Job) (N w:Nat) (f:Fl) (xs:List Vtx):V:= .agg tWk [vG .sh g,vJ j,.int .i64 (N:Int),.int .i64 (w:Int),.int .i64 0,.lst 86 .nil [],.lst 86 f (xs.map Ci),.bool false]
section
variable {a b c:V}
end
end
section
open Go AM
abbrev GI (f:Fl) (l:List Vtx):V:= .lst 86 f (l.map Ci)
structure Wkr where
 g:Grf
 j:Job
 N:Nat
 w:Nat
 step:Int
 prev:List Vtx
 now:List Vtx
 op:Bool
abbrev SK (fp fn:Fl) (k:Wkr):V:= .agg tWk [vG .sh k.g,vJ k.j,.int .i64 (k.N:Int),.int .i64 (k.w:Int),.int .i64 k.step,GI fp k.prev,GI fn k.now,.bool k.op]
structure WkOk (k:Wkr):Prop where
 job:EX k.g k.j=true
 n1:1≤k.N
 n64:k.N≤64
 w:k.w<k.N
 st:I64 k.step
 now:∀x∈k.now,JI x
 len:k.now.length≤64
def DW (j:Job) (ms:List Msg) (x:Vtx):Vtx×Int:=(⟨x.id,x.val,x.act,(GZ j.tag ms x.id).2.1,(GZ j.tag ms x.id).1⟩,(GZ j.tag ms x.id).2.2)
def FM (F:Vtx→Vtx×Int):List Vtx→List Vtx×Int
 |[]=>([],0)
 |x::l=>if(F x).2=0 then((F x).1::(FM F l).1,(FM F l).2)else([(F x).1],(F x).2)
open Classical in
def Ae (g:Grf) (j:Job) (at_:Int) (x:Vtx):Vtx×List Msg×Int:=
 if h:EX g j=true∧JI x then
  (Classical.choose (Hq h.1 at_ h.2),Classical.choose (Classical.choose_spec (Hq h.1 at_ h.2)),Classical.choose (Classical.choose_spec (Classical.choose_spec (Hq h.1 at_ h.2))))
 else(x,[],0)
theorem Ic {g:Grf} {j:Job} (hj:EX g j=true) (at_:Int) {x:Vtx} (hx:JI x):
 Cl 57 [vG .sh g,vJ j,.int .i64 at_,Ci x] []=some (.tup [Ci (Ae g j at_ x).1,Bl .sh (Ae g j at_ x).2.1,.int .i64 (Ae g j at_ x).2.2],[])∧JI (Ae g j at_ x).1∧
  ((Ae g j at_ x).2.2=0→(Ae g j at_ x).1.id=x.id∧(Ae g j at_ x).1.has=false)∧(∀m∈(Ae g j at_ x).2.1,MIn m)∧(Ae g j at_ x).2.1.length≤1000:=by
 have h:EX g j=true∧JI x:=⟨hj,hx⟩
 have e:Ae g j at_ x=(Classical.choose (Hq h.1 at_ h.2),Classical.choose (Classical.choose_spec (Hq h.1 at_ h.2)),Classical.choose (Classical.choose_spec (Classical.choose_spec (Hq h.1 at_ h.2)))):=by
  unfold Ae;rw[dif_pos h]
 have s:=Classical.choose_spec (Classical.choose_spec (Classical.choose_spec (Hq h.1 at_ h.2)))
 rw[e]
 exact⟨s.1,s.2.1,s.2.2.1,s.2.2.2.1,s.2.2.2.2.1⟩
def Dh (F:Vtx→Vtx×List Msg×Int):List Vtx→List Vtx×List Msg×Int
 |[]=>([],[],0)
 |x::l=>if(F x).2.2=0 then((F x).1::(Dh F l).1,(F x).2.1++(Dh F l).2.1,(Dh F l).2.2)else([(F x).1],(F x).2.1,(F x).2.2)
theorem YI {F:Vtx→Vtx×List Msg×Int} {l0:List Vtx} (hF:∀x∈l0,(F x).2.1.length≤1000∧(∀m∈(F x).2.1,MIn m)∧JI (F x).1):∀{l:List Vtx},(∀x∈l,x∈l0)→(Dh F l).1.length≤l.length∧(Dh F l).2.1.length≤1000*l.length∧(∀m∈(Dh F l).2.1,MIn m)∧∀x∈(Dh F l).1,JI x
 |[],_=>⟨by simp[Dh],by simp[Dh],by simp[Dh],by simp[Dh]⟩
 |x::l,h=>by
  obtain⟨a,b,c,d⟩:=YI hF (l:=l) fun y hy=>h y (List.mem_cons_of_mem _ hy)
  obtain⟨f1,f2,f3⟩:=hF x (h x List.mem_cons_self)
  rw[Dh]
  split
  ·refine⟨by simp;omega,by simp;omega,fun m hm=> ?_,fun y hy=> ?_⟩
   ·rcases List.mem_append.1 hm with hm|hm;exact f2 m hm;exact c m hm
   ·rcases List.mem_cons.1 hy with rfl|hy;exact f3;exact d y hy
  ·exact⟨by simp,by simp;omega,f2,fun y hy=>by rw[List.mem_singleton]at hy;subst hy;exact f3⟩
def J6 (k:Wkr) (at_:Int) (ms:List Msg):List Vtx×Int:=FM (DW k.j ms) k.now
def Eb (k:Wkr) (at_:Int) (ms:List Msg):List Vtx×List Msg×Int:=Dh (Ae k.g k.j at_) (J6 k at_ ms).1
def doE (k:Wkr) (at_:Int) (ms:List Msg):Int:=if(J6 k at_ ms).2=0 then(Eb k at_ ms).2.2 else(J6 k at_ ms).2
def IC (k:Wkr) (at_:Int) (ms:List Msg):List (List Msg):=Np k.N (Eb k at_ ms).2.1
def doC (k:Wkr) (at_:Int) (ms:List Msg):List UInt8:=(Q8 (okR (mkC (k.w:Int) at_ (Eb k at_ ms).1 (IC k at_ ms))).1).1
def doK (k:Wkr) (at_:Int) (ms:List Msg):Wkr:=⟨k.g,k.j,k.N,k.w,at_+1,k.now,(Eb k at_ ms).1,true⟩
abbrev Yv (e:Int) (c:List UInt8) (f:Fl) (bs:List (List UInt8)):V:= .agg 43 [.int .i64 e,.str c,.lst 9 f (bs.map V.str)]
theorem Zc {k:Wkr} (hk:WkOk k) (at_:Int) (ms:List Msg):(J6 k at_ ms).1.length≤64∧∀x∈(J6 k at_ ms).1,JI x:=by
 have key:∀l:List Vtx,(∀x∈l,JI x)→(FM (DW k.j ms) l).1.length≤l.length∧∀x∈(FM (DW k.j ms) l).1,JI x:=by
  have one:∀x,JI x→JI (DW k.j ms x).1:=fun x hx=>by
   have:=AFf k.j.tag ms x.id
   exact⟨hx.1,hx.2.1,by show I64 (GZ k.j.tag ms x.id).1;simp only[I64];omega⟩
  intro l
  induction l with
  |nil=>intro _;simp[FM]
  |cons x l ih=>
   intro h
   obtain⟨a,b⟩:=ih fun y hy=>h y (List.mem_cons_of_mem _ hy)
   rw[FM]
   split
   ·refine⟨by simp;omega,fun y hy=> ?_⟩
    rcases List.mem_cons.1 hy with rfl|hy
    ·exact one x (h x List.mem_cons_self)
    ·exact b y hy
   ·refine⟨by simp,fun y hy=> ?_⟩
    rw[List.mem_singleton]at hy;subst hy
    exact one x (h x List.mem_cons_self)
 obtain⟨a,b⟩:=key k.now hk.now
 exact⟨Nat.le_trans a hk.len,b⟩
theorem Va {k:Wkr} (hk:WkOk k) (at_:Int) (ms:List Msg):(Eb k at_ ms).1.length≤64∧(Eb k at_ ms).2.1.length≤64000∧(∀m∈(Eb k at_ ms).2.1,MIn m)∧∀x∈(Eb k at_ ms).1,JI x:=by
 obtain⟨b1,b2⟩:=Zc hk at_ ms
 have:=YI (F:=Ae k.g k.j at_) (l0:=(J6 k at_ ms).1) (fun x hx=>by
  obtain⟨_,h2,_,h4,h5⟩:=Ic hk.job at_ (b2 x hx)
  exact⟨h5,h4,h2⟩) (l:=(J6 k at_ ms).1) (fun x hx=>hx)
 exact⟨Nat.le_trans this.1 b1,Nat.le_trans this.2.1 (by omega),this.2.2⟩
theorem Vb {k:Wkr} (hk:WkOk k) (at_:Int) (ms:List Msg):AJV (IC k at_ ms):=by
 obtain⟨_,d2,d3,_⟩:=Va hk at_ ms
 have n64:=hk.n64
 refine⟨fun l hl=> ?_,by simp[IC,Np];omega⟩
 obtain⟨w,_,rfl⟩:=List.mem_map.1 hl
 refine⟨fun m hm=> ?_,by have:=AFn (N:=k.N) (l:=(Eb k at_ ms).2.1) w;omega⟩
 rw[Nl,CQ,List.mem_mergeSort]at hm
 exact(d3 m (List.mem_filter.1 hm).1).1
end
section
open Go AM
section
variable {a0 a1 a2 a3:V} {fp fn:Fl} {k:Wkr} {at_:Int} {ms:List Msg}
abbrev Vt (a0 a1 a2 a3:V) (fp fn:Fl) (k:Wkr) (at_:Int) (ms:List Msg) (fb:Fl) (b:List Vtx) (fd:Fl) (d:List Vtx) (fs:Fl) (s:List Msg):List V:=[a0,a1,a2,a3,SK fp fn k,.ref 4 [] 103,.int .i64 at_,Bl .sh ms,Yv 0 [] .nil [],GI fb b,GI fd d,.lst 152 fs (s.map Aa)]
abbrev c15:V:= .clo 54 [.ref 5 [] 29,.ref 7 [] 39,.ref 9 [] 35]
abbrev c25:V:= .clo 56 [.ref 5 [] 29,.ref 6 [] 3,.ref 10 [] 35,.ref 11 [] 39]
theorem ASA (hms:ms.length≤1000000) {fb:Fl} {b:List Vtx} (hb:b.length≤1000) (hf:fb= .own∨fb= .nil∧b=[]) (x:Vtx):
 Cl 54 [Ci x,.ref 5 [] 29,.ref 7 [] 39,.ref 9 [] 35] (Vt a0 a1 a2 a3 fp fn k at_ ms fb b .nil [] .nil []++[Ci x])=some (.int .i64 (DW k.j ms x).2,Vt a0 a1 a2 a3 fp fn k at_ ms .own (b++[(DW k.j ms x).1]) .nil [] .nil []++[Ci x]):=by
 have ca:=ACC k.j.tag hms x.id (fl:= .sh) (.inl rfl)
 have ap:∀(h:List V) (y:Vtx),Gv 86 (tyG tVx) false h (GI fb b) (.lst 86 .own [Ci y])=some (GI .own (b++[y])):=fun h y=>by
  have cl:AU [Ci y]=true:=rfl
  have ty:[Ci y].all (tyG tVx)=true:=rfl
  unfold GI
  rw[List.map_append]
  rcases hf with rfl|⟨rfl,rfl⟩
  ·rw[Dt cl ty (by simp;omega)];rfl
  ·rw[List.map_nil,Dx cl ty (by simp)];rfl
 rw[AED]
 simp only[DW]
 generalize GZ k.j.tag ms x.id=q at*
 refine BP (R:=fun X=>X=_) rfl ?_
 iterate 8 refine rb (R:=fun X=>X=_) rfl ?_
 refine rb (R:=fun X=>X=_) (show Cl 55 _ _=_ from ca) ?_
 iterate 3 refine rb (R:=fun X=>X=_) rfl ?_
 iterate 4 refine rb (R:=fun X=>X=_) rfl ?_
 iterate 3 refine rb (R:=fun X=>X=_) rfl ?_
 refine rb (R:=fun X=>X=_) (ap _ ⟨x.id,x.val,x.act,q.2.1,q.1⟩) ?_
 refine rb (R:=fun X=>X=_) rfl ?_
 rfl
theorem ANA (hms:ms.length≤1000000) {l:List Vtx} (hl:l.length≤64):∀(m i:Nat) (fb:Fl) (b:List Vtx),i+m=l.length→b.length≤i→(fb= .own∨fb= .nil∧b=[])→∃fb':Fl,(fb'= .own∨fb'= .nil)∧
 Jt c15 (GI .sh l) (.int .i64 (l.length:Int)) (.int .i64 (i:Int)) 12 (Vt a0 a1 a2 a3 fp fn k at_ ms fb b .nil [] .nil [])=some (.int .i64 (FM (DW k.j ms) (l.drop i)).2,Vt a0 a1 a2 a3 fp fn k at_ ms fb' (b++(FM (DW k.j ms) (l.drop i)).1) .nil [] .nil []):=by
 intro m
 induction m with
 |zero=>
  intro i fb b hi hb hf
  have ls:AL .lss (.int .i64 (i:Int)) (.int .i64 (l.length:Int))=some (.bool false):=by rw[b_lss,decide_eq_false (by omega)]
  refine⟨fb,by rcases hf with rfl|⟨rfl,_⟩<;>simp,?_⟩
  rw[List.drop_eq_nil_of_le (by omega),Cb]
  simp only[FM,List.append_nil]
  refine(AA ls _).trans ?_
  rfl
 |succ m ih=>
  intro i fb b hi hb hf
  have h:i<l.length:=by omega
  have ls:AL .lss (.int .i64 (i:Int)) (.int .i64 (l.length:Int))=some (.bool true):=by rw[b_lss,decide_eq_true (by omega)]
  have ix:Eg 86 (GI .sh l) (.int .i64 (i:Int))=some (.rop 86 (Ci l[i])):=by
   rw[EQ,List.getElem?_map,List.getElem?_eq_getElem h];rfl
  have ad:AL .add (.int .i64 (i:Int)) (.int .i64 1)=some (.int .i64 ((i+1:Nat):Int)):=by rw[DT,wrap_i64 (by omega) (by omega)];rfl
  have d1:=ASA (a0:=a0) (a1:=a1) (a2:=a2) (a3:=a3) (fp:=fp) (fn:=fn) (k:=k) (at_:=at_) hms (fb:=fb) (b:=b) (by omega) hf l[i]
  rw[List.drop_eq_getElem_cons h,FM]
  by_cases hq:(DW k.j ms l[i]).2=0
  ·obtain⟨fb',hf',nx⟩:=ih (i+1) .own (b++[(DW k.j ms l[i]).1]) (by omega) (by simp;omega) (.inl rfl)
   refine⟨fb',hf',?_⟩
   have ne:AL .neq (.int .i64 (DW k.j ms l[i]).2) (.int .i64 0)=some (.bool false):=by rw[b_neq];simp[hq]
   rw[if_pos hq]
   simp only[show b++(DW k.j ms l[i]).1::(FM (DW k.j ms) (l.drop (i+1))).1=b++[(DW k.j ms l[i]).1]++(FM (DW k.j ms) (l.drop (i+1))).1 by simp]
   rw[←nx,Cb]
   clear ih nx hf
   generalize DW k.j ms l[i]=q at*
   generalize l[i]=x at*
   generalize (i+1:Nat)=i2 at*
   generalize (l.length:Int)=ll at*
   generalize l.map Ci=LL at*
   refine(AA ls _).trans ?_
   refine(Ag _ _).trans ?_
   refine(AA ix _).trans ?_
   refine rb (R:=fun X=>X=_) rfl ?_
   refine rb (R:=fun X=>X=_) rfl ?_
   refine rb (R:=fun X=>X=_) rfl ?_
   refine Jh (R:=fun X=>X=_) d1 ?_
   refine BP (R:=fun X=>X=_) rfl ?_
   refine(AA ne _).trans ?_
   refine(Aj _ _).trans ?_
   refine(AA ad _).trans ?_
   refine BP (R:=fun X=>X=_) rfl ?_
   rfl
  ·refine⟨.own,.inl rfl,?_⟩
   have ne:AL .neq (.int .i64 (DW k.j ms l[i]).2) (.int .i64 0)=some (.bool true):=by rw[b_neq];simp[hq]
   rw[if_neg hq,Cb]
   clear ih hf
   generalize DW k.j ms l[i]=q at*
   generalize l[i]=x at*
   generalize (l.length:Int)=ll at*
   generalize l.map Ci=LL at*
   refine(AA ls _).trans ?_
   refine(Ag _ _).trans ?_
   refine(AA ix _).trans ?_
   refine rb (R:=fun X=>X=_) rfl ?_
   refine rb (R:=fun X=>X=_) rfl ?_
   refine rb (R:=fun X=>X=_) rfl ?_
   refine Jh (R:=fun X=>X=_) d1 ?_
   refine BP (R:=fun X=>X=_) rfl ?_
   refine(AA ne _).trans ?_
   refine(Ag _ _).trans ?_
   rfl
theorem AJe (hms:ms.length≤1000000) {l:List Vtx} (hl:l.length≤64):∃fb':Fl,(fb'= .own∨fb'= .nil)∧
 Cl 53 [GI .sh l,c15] (Vt a0 a1 a2 a3 fp fn k at_ ms .nil [] .nil [] .nil [])=some (.int .i64 (FM (DW k.j ms) l).2,Vt a0 a1 a2 a3 fp fn k at_ ms fb' (FM (DW k.j ms) l).1 .nil [] .nil []):=by
 obtain⟨fb',hf',lp⟩:=ANA (a0:=a0) (a1:=a1) (a2:=a2) (a3:=a3) (fp:=fp) (fn:=fn) (k:=k) (at_:=at_) hms hl l.length 0 .nil [] (by omega) (Nat.le_refl 0) (.inr ⟨rfl,rfl⟩)
 have lL:E5 (GI .sh l)=some (.int .i64 (l.length:Int)):=by show some _=_;rw[List.length_map]
 refine⟨fb',hf',?_⟩
 rw[List.drop_zero,List.nil_append]at lp
 rw[←lp,Uj]
 exact AA lL _
theorem ASB (hk:WkOk k) {fb:Fl} {b:List Vtx} {fd fs:Fl} {d:List Vtx} {s:List Msg} (hd:d.length≤1000) (hs:s.length≤900000) (hf:fd= .own∨fd= .nil∧d=[]) (hf2:fs= .own∨fs= .nil∧s=[]) {x:Vtx} (hx:JI x):
 Cl 56 [Ci x,.ref 5 [] 29,.ref 6 [] 3,.ref 10 [] 35,.ref 11 [] 39] (Vt a0 a1 a2 a3 fp fn k at_ ms fb b fd d fs s++[Ci x])=some (.int .i64 (Ae k.g k.j at_ x).2.2,Vt a0 a1 a2 a3 fp fn k at_ ms fb b .own (d++[(Ae k.g k.j at_ x).1]) (if fs= .nil∧(Ae k.g k.j at_ x).2.1=[]then .nil else .own) (s++(Ae k.g k.j at_ x).2.1)++[Ci x]):=by
 obtain⟨st,_,_,_,hln⟩:=Ic hk.job at_ hx
 have ap:∀(h:List V) (y:Vtx),Gv 86 (tyG tVx) false h (GI fd d) (.lst 86 .own [Ci y])=some (GI .own (d++[y])):=fun h y=>by
  have cl:AU [Ci y]=true:=rfl
  have ty:[Ci y].all (tyG tVx)=true:=rfl
  unfold GI
  rw[List.map_append]
  rcases hf with rfl|⟨rfl,rfl⟩
  ·rw[Dt cl ty (by simp;omega)];rfl
  ·rw[List.map_nil,Dx cl ty (by simp)];rfl
 have ap2:∀(h:List V) (u:List Msg),u.length≤1000→Gv 152 (tyG 151) false h (.lst 152 fs (s.map Aa)) (Bl .sh u)=some (.lst 152 (if fs= .nil∧u=[]then .nil else .own) ((s++u).map Aa)):=fun h u hu=>by
  have cl:AU (u.map Aa)=true:=G5 u
  have ty:(u.map Aa).all (tyG 151)=true:=all_map (fun _=>rfl) u
  rw[List.map_append]
  rcases hf2 with rfl|⟨rfl,rfl⟩
  ·rw[Bl,Dt cl ty (by simp;omega)]
   simp only[reduceCtorEq,false_and,if_false];rfl
  ·cases u with
   |nil=>rfl
   |cons y u=>
    rw[Bl,List.map_nil,List.map_cons,Dx (by simpa using cl) (by simpa using ty) (by simp at hu⊢;omega)]
    simp;rfl
 rw[AEF]
 generalize Ae k.g k.j at_ x=q at*
 refine BP (R:=fun X=>X=_) rfl ?_
 iterate 10 refine rb (R:=fun X=>X=_) rfl ?_
 refine BP (R:=fun X=>X=_) rfl ?_
 refine rb (R:=fun X=>X=_) (show Cl 57 _ _=_ from st) ?_
 iterate 4 refine rb (R:=fun X=>X=_) rfl ?_
 refine BP (R:=fun X=>X=_) rfl ?_
 refine BP (R:=fun X=>X=_) rfl ?_
 refine rb (R:=fun X=>X=_) rfl ?_
 refine BP (R:=fun X=>X=_) rfl ?_
 iterate 2 refine rb (R:=fun X=>X=_) rfl ?_
 refine BP (R:=fun X=>X=_) (by rcases hf with rfl|⟨rfl,rfl⟩<;>rfl) ?_
 refine rb (R:=fun X=>X=_) (ap _ q.1) ?_
 refine BP (R:=fun X=>X=_) rfl ?_
 refine rb (R:=fun X=>X=_) rfl ?_
 refine rb (R:=fun X=>X=_) (ap2 _ q.2.1 hln) ?_
 refine rb (R:=fun X=>X=_) rfl ?_
 refine rb (R:=fun X=>X=_) (x:=Vt a0 a1 a2 a3 fp fn k at_ ms fb b .own (d++[q.1]) (if fs= .nil∧q.2.1=[]then .nil else .own) (s++q.2.1)++[Ci x]++[Ci x]++[Ci q.1]) (by split<;>rfl) ?_
 rfl
theorem ANB (hk:WkOk k) {fb:Fl} {b:List Vtx} {l:List Vtx} (hl:l.length≤64) (hx:∀x∈l,JI x):∀(m i:Nat) (fd fs:Fl) (d:List Vtx) (s:List Msg),i+m=l.length→d.length≤i→s.length≤1000*i→(fd= .own∨fd= .nil∧d=[])→(fs= .own∨fs= .nil∧s=[])→∃fd' fs':Fl,(fd'= .own∨fd'= .nil)∧(fs'= .own∨fs'= .nil)∧
 Jt c25 (GI .sh l) (.int .i64 (l.length:Int)) (.int .i64 (i:Int)) 12 (Vt a0 a1 a2 a3 fp fn k at_ ms fb b fd d fs s)=some (.int .i64 (Dh (Ae k.g k.j at_) (l.drop i)).2.2,Vt a0 a1 a2 a3 fp fn k at_ ms fb b fd' (d++(Dh (Ae k.g k.j at_) (l.drop i)).1) fs' (s++(Dh (Ae k.g k.j at_) (l.drop i)).2.1)):=by
 intro m
 induction m with
 |zero=>
  intro i fd fs d s hi hd hs hf hf2
  have ls:AL .lss (.int .i64 (i:Int)) (.int .i64 (l.length:Int))=some (.bool false):=by rw[b_lss,decide_eq_false (by omega)]
  refine⟨fd,fs,by rcases hf with rfl|⟨rfl,_⟩<;>simp,by rcases hf2 with rfl|⟨rfl,_⟩<;>simp,?_⟩
  rw[List.drop_eq_nil_of_le (by omega),Cb]
  simp only[Dh,List.append_nil]
  refine(AA ls _).trans ?_
  rfl
 |succ m ih=>
  intro i fd fs d s hi hd hs hf hf2
  have h:i<l.length:=by omega
  have ls:AL .lss (.int .i64 (i:Int)) (.int .i64 (l.length:Int))=some (.bool true):=by rw[b_lss,decide_eq_true (by omega)]
  have ix:Eg 86 (GI .sh l) (.int .i64 (i:Int))=some (.rop 86 (Ci l[i])):=by
   rw[EQ,List.getElem?_map,List.getElem?_eq_getElem h];rfl
  have ad:AL .add (.int .i64 (i:Int)) (.int .i64 1)=some (.int .i64 ((i+1:Nat):Int)):=by rw[DT,wrap_i64 (by omega) (by omega)];rfl
  have d2:=ASB (a0:=a0) (a1:=a1) (a2:=a2) (a3:=a3) (fp:=fp) (fn:=fn) (at_:=at_) (ms:=ms) hk (fb:=fb) (b:=b) (fd:=fd) (fs:=fs) (d:=d) (s:=s) (by omega) (by omega) hf hf2 (hx _ (List.getElem_mem h))
  obtain⟨_,_,_,_,hln⟩:=Ic hk.job at_ (hx _ (List.getElem_mem h))
  rw[List.drop_eq_getElem_cons h,Dh]
  by_cases hq:(Ae k.g k.j at_ l[i]).2.2=0
  ·obtain⟨fd',fs',hf',hf2',nx⟩:=ih (i+1) .own (if fs= .nil∧(Ae k.g k.j at_ l[i]).2.1=[]then .nil else .own) (d++[(Ae k.g k.j at_ l[i]).1]) (s++(Ae k.g k.j at_ l[i]).2.1) (by omega) (by simp;omega) (by simp;omega) (.inl rfl) (by
    by_cases hc:fs= .nil∧(Ae k.g k.j at_ l[i]).2.1=[]
    ·rw[if_pos hc]
     refine .inr ⟨rfl,?_⟩
     rcases hf2 with rfl|⟨_,rfl⟩
     ·cases hc.1
     ·rw[hc.2];rfl
    ·rw[if_neg hc];exact .inl rfl)
   refine⟨fd',fs',hf',hf2',?_⟩
   have ne:AL .neq (.int .i64 (Ae k.g k.j at_ l[i]).2.2) (.int .i64 0)=some (.bool false):=by rw[b_neq];simp[hq]
   rw[if_pos hq]
   simp only[show d++(Ae k.g k.j at_ l[i]).1::(Dh (Ae k.g k.j at_) (l.drop (i+1))).1=d++[(Ae k.g k.j at_ l[i]).1]++(Dh (Ae k.g k.j at_) (l.drop (i+1))).1 by simp,
    show s++((Ae k.g k.j at_ l[i]).2.1++(Dh (Ae k.g k.j at_) (l.drop (i+1))).2.1)=s++(Ae k.g k.j at_ l[i]).2.1++(Dh (Ae k.g k.j at_) (l.drop (i+1))).2.1 by simp]
   rw[←nx,Cb]
   clear ih nx hf hf2 hln hx
   generalize (if fs= .nil∧(Ae k.g k.j at_ l[i]).2.1=[]then Fl.nil else Fl.own)=fz at*
   generalize Ae k.g k.j at_ l[i]=q at*
   generalize l[i]=x at*
   generalize (i+1:Nat)=i2 at*
   generalize (l.length:Int)=ll at*
   generalize l.map Ci=LL at*
   refine(AA ls _).trans ?_
   refine(Ag _ _).trans ?_
   refine(AA ix _).trans ?_
   refine rb (R:=fun X=>X=_) rfl ?_
   refine rb (R:=fun X=>X=_) rfl ?_
   refine rb (R:=fun X=>X=_) rfl ?_
   refine Jh (R:=fun X=>X=_) d2 ?_
   refine BP (R:=fun X=>X=_) rfl ?_
   refine(AA ne _).trans ?_
   refine(Aj _ _).trans ?_
   refine(AA ad _).trans ?_
   refine BP (R:=fun X=>X=_) rfl ?_
   rfl
  ·refine⟨.own,(if fs= .nil∧(Ae k.g k.j at_ l[i]).2.1=[]then .nil else .own),.inl rfl,by split<;>simp,?_⟩
   have ne:AL .neq (.int .i64 (Ae k.g k.j at_ l[i]).2.2) (.int .i64 0)=some (.bool true):=by rw[b_neq];simp[hq]
   rw[if_neg hq,Cb]
   clear ih hf hf2 hln hx
   generalize (if fs= .nil∧(Ae k.g k.j at_ l[i]).2.1=[]then Fl.nil else Fl.own)=fz at*
   generalize Ae k.g k.j at_ l[i]=q at*
   generalize l[i]=x at*
   generalize (l.length:Int)=ll at*
   generalize l.map Ci=LL at*
   refine(AA ls _).trans ?_
   refine(Ag _ _).trans ?_
   refine(AA ix _).trans ?_
   refine rb (R:=fun X=>X=_) rfl ?_
   refine rb (R:=fun X=>X=_) rfl ?_
   refine rb (R:=fun X=>X=_) rfl ?_
   refine Jh (R:=fun X=>X=_) d2 ?_
   refine BP (R:=fun X=>X=_) rfl ?_
   refine(AA ne _).trans ?_
   refine(Ag _ _).trans ?_
   rfl
theorem AJf (hk:WkOk k) {fb:Fl} {b:List Vtx} {l:List Vtx} (hl:l.length≤64) (hx:∀x∈l,JI x):∃fd' fs':Fl,(fd'= .own∨fd'= .nil)∧(fs'= .own∨fs'= .nil)∧
 Cl 53 [GI .sh l,c25] (Vt a0 a1 a2 a3 fp fn k at_ ms fb b .nil [] .nil [])=some (.int .i64 (Dh (Ae k.g k.j at_) l).2.2,Vt a0 a1 a2 a3 fp fn k at_ ms fb b fd' (Dh (Ae k.g k.j at_) l).1 fs' (Dh (Ae k.g k.j at_) l).2.1):=by
 obtain⟨fd',fs',hf',hf2',lp⟩:=ANB (a0:=a0) (a1:=a1) (a2:=a2) (a3:=a3) (fp:=fp) (fn:=fn) (at_:=at_) (ms:=ms) hk (fb:=fb) (b:=b) hl hx l.length 0 .nil .nil [] [] (by omega) (Nat.le_refl 0) (by simp) (.inr ⟨rfl,rfl⟩) (.inr ⟨rfl,rfl⟩)
 have lL:E5 (GI .sh l)=some (.int .i64 (l.length:Int)):=by show some _=_;rw[List.length_map]
 refine⟨fd',fs',hf',hf2',?_⟩
 rw[List.drop_zero,List.nil_append,List.nil_append]at lp
 rw[←lp,Uj]
 exact AA lL _
theorem ANC (hk:WkOk k) (hfn:fn= .own∨fn= .nil∨fn= .sh) {fb fd fs:Fl} (hfd:fd= .own∨fd= .nil) {b:List Vtx} (cc:V) (co:List UInt8) (ha: -1000000≤at_∧at_≤1000000):∀(m i:Nat) (f:Fl) (bs:List (List UInt8)),i+m=(IC k at_ ms).length→bs.length≤i→(f= .own∨f= .nil∧bs=[])→
 Ot (.ref 5 [] 29) (.ref 6 [] 3) (.ref 8 [] 44) (.ref 10 [] 35) (.ref 13 [] 44) (vBs .sh (IC k at_ ms)) (.int .i64 ((IC k at_ ms).length:Int)) (.int .i64 (i:Int)) 5 (Vt a0 a1 a2 a3 fp fn k at_ ms fb b fd (Eb k at_ ms).1 fs (Eb k at_ ms).2.1++[cc,Yv 0 co f bs])=
  some (Yv 0 co .sh (bs++((IC k at_ ms).drop i).map fun l=>(Ea l).1),[a0,a1,a2,a3,SK fn.wk fd.wk (doK k at_ ms)]):=by
 have hO:=Vb hk at_ ms
 generalize hOO:IC k at_ ms=O at*
 intro m
 induction m with
 |zero=>
  intro i f bs hi hb hf
  have ls:AL .lss (.int .i64 (i:Int)) (.int .i64 (O.length:Int))=some (.bool false):=by rw[b_lss,decide_eq_false (by omega)]
  have ad:AL .add (.int .i64 at_) (.int .i64 1)=some (.int .i64 (at_+1)):=by rw[DT,wrap_i64 (by omega) (by omega)]
  have pl:IA (bs.map V.str)=true:=CX (fun _=>rfl) bs
  have pk:(vG .sh k.g).pl=true:=by simp only[go_sem]
  rw[List.drop_eq_nil_of_le (by omega),List.map_nil,List.append_nil,JB]
  unfold doK
  generalize (Eb k at_ ms).1=dn at*
  generalize (Eb k at_ ms).2.1=sn at*
  clear hOO hO hk
  rcases hfn with rfl|rfl|rfl
  all_goals rcases hfd with rfl|rfl
  all_goals refine(AA ls _).trans ?_
  all_goals refine(Aj _ _).trans ?_
  all_goals refine rb (R:=fun X=>X=_) rfl ?_
  all_goals refine BP (R:=fun X=>X=_) rfl ?_
  all_goals refine rb (R:=fun X=>X=_) rfl ?_
  all_goals refine BP (R:=fun X=>X=_) rfl ?_
  all_goals refine rb (R:=fun X=>X=_) rfl ?_
  all_goals refine BP (R:=fun X=>X=_) rfl ?_
  all_goals iterate 5 refine rb (R:=fun X=>X=_) rfl ?_
  all_goals refine BP (R:=fun X=>X=_) rfl ?_
  all_goals refine rb (R:=fun X=>X=_) rfl ?_
  all_goals refine BP (R:=fun X=>X=_) rfl ?_
  all_goals refine rb (R:=fun X=>X=_) rfl ?_
  all_goals refine rb (R:=fun X=>X=_) ad ?_
  all_goals iterate 2 refine rb (R:=fun X=>X=_) rfl ?_
  all_goals refine BP (R:=fun X=>X=_) rfl ?_
  all_goals iterate 3 refine rb (R:=fun X=>X=_) rfl ?_
  all_goals refine BP (R:=fun X=>X=_) rfl ?_
  all_goals iterate 3 refine rb (R:=fun X=>X=_) rfl ?_
  all_goals refine BP (R:=fun X=>X=_) rfl ?_
  all_goals iterate 8 refine rb (R:=fun X=>X=_) rfl ?_
  all_goals rcases hf with rfl|⟨rfl,rfl⟩
  all_goals rfl
 |succ m ih=>
  intro i f bs hi hb hf
  have h:i<O.length:=by omega
  have ls:AL .lss (.int .i64 (i:Int)) (.int .i64 (O.length:Int))=some (.bool true):=by rw[b_lss,decide_eq_true (by omega)]
  have ho:=hO.2
  have ix:Eg 39 (vBs .sh O) (.int .i64 (i:Int))=some (.rop 39 (mB O[i])):=by
   rw[EQ,List.getElem?_map,List.getElem?_eq_getElem h];rfl
  have ad:AL .add (.int .i64 (i:Int)) (.int .i64 1)=some (.int .i64 ((i+1:Nat):Int)):=by rw[DT,wrap_i64 (by omega) (by omega)];rfl
  have hm:=hO.1 _ (List.getElem_mem h)
  have pt:=ACE (f:= .sh) hm.1 hm.2
  have ap:∀(h:List V),Gv 9 AM.tyS false h (.lst 9 f (bs.map V.str)) (.lst 9 .own [.str (Ea O[i]).1])=some (.lst 9 .own ((bs++[(Ea O[i]).1]).map V.str)):=fun h=>by
   have cl:AU [V.str (Ea O[i]).1]=true:=rfl
   have ty:[V.str (Ea O[i]).1].all AM.tyS=true:=rfl
   rw[List.map_append]
   rcases hf with rfl|⟨rfl,rfl⟩
   ·rw[Dt cl ty (by simp;omega)];rfl
   ·rw[List.map_nil,Dx cl ty (by simp)];rfl
  have nx:=ih (i+1) .own (bs++[(Ea O[i]).1]) (by omega) (by simp;omega) (.inl rfl)
  rw[List.drop_eq_getElem_cons h,List.map_cons,show bs++(Ea O[i]).1::((O.drop (i+1)).map fun l=>(Ea l).1)=bs++[(Ea O[i]).1]++(O.drop (i+1)).map (fun l=>(Ea l).1)by simp,←nx,JB]
  clear ih nx hf hm hO hOO
  generalize (Eb k at_ ms).1=dn at*
  generalize (Eb k at_ ms).2.1=sn at*
  generalize Ea O[i]=q at*
  generalize O[i]=o at*
  generalize (i+1:Nat)=i2 at*
  generalize (O.length:Int)=ll at*
  generalize O.map mB=OL at*
  refine(AA ls _).trans ?_
  refine(Ag _ _).trans ?_
  refine(AA ix _).trans ?_
  refine rb (R:=fun X=>X=_) (x:=mB o) rfl ?_
  refine rb (R:=fun X=>X=_) (show Cl 61 _ _=_ from pt) ?_
  iterate 5 refine rb (R:=fun X=>X=_) rfl ?_
  refine rb (R:=fun X=>X=_) (ap _) ?_
  iterate 2 refine rb (R:=fun X=>X=_) rfl ?_
  exact AA ad _
theorem AJg (fl:Fl) (hfl:fl= .sh∨fl= .own) (hb:at_≠k.step∨k.j.steps≤at_):Cl 17 [.ref 4 [] 103,.int .i64 at_,Bl .sh ms] [a0,a1,a2,a3,SK fp fn k]=some (Yv 131 [] .sh [],[a0,a1,a2,a3,SK fp fn k]):=by
 rw[Y3]
 iterate 3 refine BP (R:=fun X=>X=_) rfl ?_
 refine Yu (R:=fun X=>X=_) ?_
 have fin:∀X:Rv,X=some (Yv 131 [] .sh [],[a0,a1,a2,a3,SK fp fn k])→X=some (Yv 131 [] .sh [],[a0,a1,a2,a3,SK fp fn k]):=fun _ h=>h
 iterate 5 refine rb (R:=fun X=>X=_) rfl ?_
 by_cases h1:at_=k.step
 ·have ne:AL .neq (.int .i64 at_) (.int .i64 k.step)=some (.bool false):=by rw[b_neq];simp[h1]
  have ge:AL .geq (.int .i64 at_) (.int .i64 k.j.steps)=some (.bool true):=by rw[b_geq,decide_eq_true (by rcases hb with h|h;exact absurd h1 h;exact h)]
  refine rb (R:=fun X=>X=_) ne ?_
  refine(Aj _ _).trans ?_
  iterate 6 refine rb (R:=fun X=>X=_) rfl ?_
  refine rb (R:=fun X=>X=_) ge ?_
  refine(Ag _ _).trans ?_
  iterate 3 refine rb (R:=fun X=>X=_) rfl ?_
  rfl
 ·have ne:AL .neq (.int .i64 at_) (.int .i64 k.step)=some (.bool true):=by rw[b_neq];simp[h1]
  refine rb (R:=fun X=>X=_) ne ?_
  refine(Ag _ _).trans ?_
  refine(Ag _ _).trans ?_
  iterate 3 refine rb (R:=fun X=>X=_) rfl ?_
  rfl
theorem ANE (hk:WkOk k) (hfn:fn= .own∨fn= .nil∨fn= .sh) (hms:ms.length≤1000000) (h1:at_=k.step) (h2:at_<k.j.steps) (h3:0≤at_):∃fd:Fl,(fd= .sh∨fd= .nil)∧
 Cl 17 [.ref 4 [] 103,.int .i64 at_,Bl .sh ms] [a0,a1,a2,a3,SK fp fn k]=some (if doE k at_ ms=0 then(Yv 0 (doC k at_ ms) .sh ((IC k at_ ms).map fun l=>(Ea l).1),[a0,a1,a2,a3,SK fn.wk fd (doK k at_ ms)])else(Yv (doE k at_ ms) [] .sh [],[a0,a1,a2,a3,SK fp fn k])):=by
 have hst:k.j.steps≤64:=by have:=hk.job;simp only[EX,decide_eq_true_eq]at this;exact this.2.2.2.2.2
 obtain⟨b1,b2⟩:=Zc hk at_ ms
 obtain⟨d1,d2,d3,d4⟩:=Va hk at_ ms
 have hO:=Vb hk at_ ms
 obtain⟨fb,hfb,e1⟩:=AJe (a0:=a0) (a1:=a1) (a2:=a2) (a3:=a3) (fp:=fp) (fn:=fn) (k:=k) (at_:=at_) hms hk.len
 have hb:FM (DW k.j ms) k.now=J6 k at_ ms:=rfl
 rw[hb]at e1
 obtain⟨fd,fs,hfd,hfs,e2⟩:=AJf (a0:=a0) (a1:=a1) (a2:=a2) (a3:=a3) (fp:=fp) (fn:=fn) (at_:=at_) (ms:=ms) hk (fb:=fb) (b:=(J6 k at_ ms).1) b1 b2
 have hd:Dh (Ae k.g k.j at_) (J6 k at_ ms).1=Eb k at_ ms:=rfl
 rw[hd]at e2
 have sp:=YG (N:=k.N) (l:=(Eb k at_ ms).2.1) hk.n1 hk.n64 (by omega) d3
 rw[show Np k.N (Eb k at_ ms).2.1=IC k at_ ms from rfl]at sp
 have mk:=ACI (w:=(k.w:Int)) (st:=at_) ⟨by have:=hk.w;have:=hk.n64;omega,by have:=hk.w;have:=hk.n64;omega⟩ ⟨by omega,by omega⟩ d4 (by omega) hO
 have hcm:Ky (okR (mkC (k.w:Int) at_ (Eb k at_ ms).1 (IC k at_ ms))).1:=by
  unfold okR
  split
  ·exact AFv ⟨by have:=hk.w;have:=hk.n64;omega,by have:=hk.w;have:=hk.n64;omega⟩ ⟨by omega,by omega⟩ _ hO
  ·exact AKx
 have cp:=ACG hcm
 have lp:=ANC (a0:=a0) (a1:=a1) (a2:=a2) (a3:=a3) (fp:=fp) (at_:=at_) (ms:=ms) hk hfn (fb:=fb) (fd:=fd) (fs:=fs) hfd (b:=(J6 k at_ ms).1) (vC .sh (okR (mkC (k.w:Int) at_ (Eb k at_ ms).1 (IC k at_ ms))).1) (doC k at_ ms) (by omega) (IC k at_ ms).length 0 .nil [] (by omega) (Nat.le_refl 0) (.inr ⟨rfl,rfl⟩)
 rw[List.drop_zero,List.nil_append]at lp
 refine⟨fd.wk,by rcases hfd with rfl|rfl<;>simp[Fl.wk],?_⟩
 have ne:AL .neq (.int .i64 at_) (.int .i64 k.step)=some (.bool false):=by rw[b_neq];simp[h1]
 have ge:AL .geq (.int .i64 at_) (.int .i64 k.j.steps)=some (.bool false):=by rw[b_geq,decide_eq_false (by omega)]
 have lO:E5 (.lst 39 .sh ((IC k at_ ms).map (Bl .sh)))=some (.int .i64 ((IC k at_ ms).length:Int)):=by show some _=_;rw[List.length_map]
 have n0:∀z:Int,z≠0→AL .neq (.int .i64 z) (.int .i64 0)=some (.bool true):=fun z hz=>by rw[b_neq];simp[hz]
 have e0:∀z:Int,z≠0→AL .eql (.int .i64 z) (.int .i64 0)=some (.bool false):=fun z hz=>by rw[b_eql,decide_eq_false hz]
 have e1':Cl 53 (AQ [(GI fn k.now).weak,c15]) (Vt a0 a1 a2 a3 fp fn k at_ ms .nil [] .nil [] .nil [])=some (.int .i64 (J6 k at_ ms).2,Vt a0 a1 a2 a3 fp fn k at_ ms fb (J6 k at_ ms).1 .nil [] .nil []):=by rcases hfn with rfl|rfl|rfl<;>exact e1
 have e2':Cl 53 (AQ [(GI fb (J6 k at_ ms).1).weak,c25]) (Vt a0 a1 a2 a3 fp fn k at_ ms fb (J6 k at_ ms).1 .nil [] .nil [])=some (.int .i64 (Eb k at_ ms).2.2,Vt a0 a1 a2 a3 fp fn k at_ ms fb (J6 k at_ ms).1 fd (Eb k at_ ms).1 fs (Eb k at_ ms).2.1):=by rcases hfb with rfl|rfl<;>exact e2
 have sp':∀H,Cl 58 (AB H [.int .i64 (k.N:Int),(V.lst 152 fs ((Eb k at_ ms).2.1.map Aa)).weak]) []=some (.tup [.lst 39 .sh ((IC k at_ ms).map (Bl .sh)),.int .i64 0],[]):=fun H=>by rcases hfs with rfl|rfl<;>exact sp
 have mk':∀H,Cl 59 (AB H [.int .i64 (k.w:Int),.int .i64 at_,(GI fd (Eb k at_ ms).1).weak,(V.lst 39 .sh ((IC k at_ ms).map (Bl .sh))).weak]) []=some (vGC (okR (mkC (k.w:Int) at_ (Eb k at_ ms).1 (IC k at_ ms))),[]):=fun H=>by rcases hfd with rfl|rfl<;>exact mk
 have lw:SC true [.int .i64 (k.w:Int),.int .i64 at_,(GI fd (Eb k at_ ms).1).weak,(V.lst 39 .sh ((IC k at_ ms).map (Bl .sh))).weak]=true:=by rcases hfd with rfl|rfl<;>rfl
 rw[Y3]
 iterate 3 refine BP (R:=fun X=>X=_) rfl ?_
 refine Yu (R:=fun X=>X=_) ?_
 iterate 5 refine rb (R:=fun X=>X=_) rfl ?_
 refine rb (R:=fun X=>X=_) ne ?_
 refine(Aj _ _).trans ?_
 iterate 6 refine rb (R:=fun X=>X=_) rfl ?_
 refine rb (R:=fun X=>X=_) ge ?_
 refine(Aj _ _).trans ?_
 iterate 3 refine rb (R:=fun X=>X=_) rfl ?_
 refine rb (R:=fun X=>X=_) rfl ?_
 refine rb (R:=fun X=>X=_) rfl ?_
 refine rb (R:=fun X=>X=_) e1' ?_
 by_cases q1:(J6 k at_ ms).2=0
 ·have q1':AL .eql (.int .i64 (J6 k at_ ms).2) (.int .i64 0)=some (.bool true):=by rw[b_eql,decide_eq_true q1]
  refine rb (R:=fun X=>X=_) q1' ?_
  refine Yu (R:=fun X=>X=_) ?_
  refine(Ag _ _).trans ?_
  refine rb (R:=fun X=>X=_) rfl ?_
  refine rb (R:=fun X=>X=_) rfl ?_
  refine rb (R:=fun X=>X=_) e2' ?_
  have qe:doE k at_ ms=(Eb k at_ ms).2.2:=by unfold doE;rw[if_pos q1]
  by_cases q2:(Eb k at_ ms).2.2=0
  ·have q2':AL .neq (.int .i64 (Eb k at_ ms).2.2) (.int .i64 0)=some (.bool false):=by rw[b_neq];simp[q2]
   refine rb (R:=fun X=>X=_) q2' ?_
   refine(Aj _ _).trans ?_
   rw[if_pos (by rw[qe];exact q2),←lp]
   clear lp e1 e2 hO b1 b2 d3 d4 hb hd
   unfold doC at*
   generalize okR (mkC (k.w:Int) at_ (Eb k at_ ms).1 (IC k at_ ms))=cq at*
   generalize Q8 cq.1=pq at*
   iterate 5 refine rb (R:=fun X=>X=_) rfl ?_
   refine rb (R:=fun X=>X=_) (sp' _) ?_
   iterate 8 refine rb (R:=fun X=>X=_) rfl ?_
   refine BP (R:=fun X=>X=_) lw ?_
   refine rb (R:=fun X=>X=_) (mk' _) ?_
   have pc:(vC .sh cq.1).pl=true:=by simp only[go_sem]
   have stc:∀(L:List V) (z:V),CY (tyG tCm) 77 (L++[z]) (.ref L.length [] 77) (vC .sh cq.1).weak=some (L++[vC .sh cq.1]):=fun L z=>by rw[(V.PF _ pc).weak];exact Qj rfl ((V.PF _ pc).under _) _
   have cp':∀L,Cl 60 (AB L [(vC .sh cq.1).weak]) []=some (.tup [.str pq.1,.int .i64 (pq.2:Int)],[]):=fun L=>by rw[(V.PF _ pc).weak,AB,AB,(V.PF _ pc).reify];exact cp
   iterate 2 refine rb (R:=fun X=>X=_) rfl ?_
   refine rb (R:=fun X=>X=_) (stc _ _) ?_
   refine rb (R:=fun X=>X=_) rfl ?_
   refine rb (R:=fun X=>X=_) (cp' _) ?_
   iterate 4 refine rb (R:=fun X=>X=_) rfl ?_
   refine rb (R:=fun X=>X=_) lO ?_
   rfl
  ·have q2':AL .neq (.int .i64 (Eb k at_ ms).2.2) (.int .i64 0)=some (.bool true):=n0 _ q2
   refine rb (R:=fun X=>X=_) q2' ?_
   refine(Ag _ _).trans ?_
   rw[if_neg (by rw[qe];exact q2),qe]
   iterate 3 refine rb (R:=fun X=>X=_) rfl ?_
   rfl
 ·have qe:doE k at_ ms=(J6 k at_ ms).2:=by unfold doE;rw[if_neg q1]
  refine rb (R:=fun X=>X=_) (e0 _ q1) ?_
  refine Yu (R:=fun X=>X=_) ?_
  refine(Aj _ _).trans ?_
  refine rb (R:=fun X=>X=_) (n0 _ q1) ?_
  refine(Ag _ _).trans ?_
  rw[if_neg (by rw[qe];exact q1),qe]
  iterate 3 refine rb (R:=fun X=>X=_) rfl ?_
  rfl
end
end
end Go.Proofs.YtoakaehjnbhgmaaGreatDoor
