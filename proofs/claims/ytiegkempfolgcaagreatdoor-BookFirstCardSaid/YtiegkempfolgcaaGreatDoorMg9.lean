/-
  Part of the proof of a statement about the given program: an abstract machine over its code, the simulation, its functions' equations, what they compute.
-/
import Derived.Attr
import Derived.Test.YtiegkempfolgcaaGreatDoorMg3
import Derived.Test.YtiegkempfolgcaaGreatDoorMg7
set_option linter.unusedVariables false
set_option linter.unusedSimpArgs false
set_option linter.unusedSectionVars false
noncomputable section
namespace Go.Proofs.YtiegkempfolgcaaGreatDoor
section
namespace AM
open Go
@[congr] theorem AIz {A B:Type} {x y:Option A} (h:x=y) (K:A→Option B):x.bind K=y.bind K:=by rw[h]
@[congr] theorem AJy {B:Type} {x y:V} (h:x=y) (a b:Option B):V.ite x a b=V.ite y a b:=by rw[h]
attribute [go_sem] Option.bind_some
@[go_sem] theorem G8 {B:Type} (a b:Option B):V.ite (.bool true) a b=a:=(rfl)
@[go_sem] theorem G9 {B:Type} (a b:Option B):V.ite (.bool false) a b=b:=(rfl)
@[go_sem] theorem AGz {B:Type} {p:Bool} (h:p=true) (a b:Option B):V.ite (.bool p) a b=a:=by rw[h];rfl
@[go_sem] theorem AH1 {B:Type} {p:Bool} (h:¬p=true) (a b:Option B):V.ite (.bool p) a b=b:=by cases p<;>first|rfl|exact absurd rfl h
@[go_sem] theorem Dl {B:Type} {p:Prop} [Decidable p] (h:p) (a b:Option B):V.ite (.bool (decide p)) a b=a:=by rw[decide_eq_true h];rfl
@[go_sem] theorem DF {B:Type} {p:Prop} [Decidable p] (h:¬p) (a b:Option B):V.ite (.bool (decide p)) a b=b:=by rw[decide_eq_false h];rfl
@[go_sem] theorem AG0 {B:Type} (p:Bool) (a b:Option B):V.ite (.bool (!p)) a b=V.ite (.bool p) b a:=by cases p<;>rfl
theorem AL {α β:Type} (k:α) (f:α→β):jn k f=f k:=(rfl)
mutual
def V.pl:V→Bool
 | .bool _=>true
 | .int _ _=>true
 | .str _=>true
 | .nilp=>true
 | .nilf=>true
 | .nili=>true
 | .ifv=>true
 | .agg _ fs=>HY fs
 | .lst _ .sh xs=>HY xs
 |_=>false
 termination_by structural x=>x
def HY:List V→Bool
 |[]=>true
 |x::xs=>x.pl&&HY xs
 termination_by structural x=>x
end
@[go_sem] theorem pl_bool (b:Bool):V.pl (.bool b)=true:=(rfl)
@[go_sem] theorem pl_int (k:IntKind) (n:Int):V.pl (.int k n)=true:=(rfl)
@[go_sem] theorem AH2 (s:List UInt8):V.pl (.str s)=true:=(rfl)
@[go_sem] theorem AG1:V.pl .nilp=true:=(rfl)
@[go_sem] theorem AG2:V.pl .nili=true:=(rfl)
@[go_sem] theorem AH3 (u:TypeId) (fs:List V):V.pl (.agg u fs)=HY fs:=(rfl)
@[go_sem] theorem AH4 (e:TypeId) (xs:List V):V.pl (.lst e .sh xs)=HY xs:=(rfl)
@[go_sem] theorem AG3:HY []=true:=(rfl)
@[go_sem] theorem AFk (x:V) (xs:List V):HY (x::xs)=(x.pl&&HY xs):=(rfl)
theorem ABW (xs:List V):HY xs=xs.all V.pl:=by
 induction xs with
 |nil=>rfl
 |cons x xs ih=>simp only[HY,List.all_cons,ih]
theorem Cb {α:Type} {c:α→V} (h:∀a,(c a).pl=true) (l:List α):HY (l.map c)=true:=by
 rw[ABW];simp[h]
theorem Og (l:List UInt8):HY (bytesOf l)=true:=Cb (fun _=>rfl) l
structure PF (v:V):Prop where
 weak:v.weak=v
 norm:v.norm=v
 clean:v.clean=true
 reify:∀h,v.reify h=v
 unmut:∀h,v.unmut h=v
 under:∀n,v.under n=true
 over:∀n,v.over n=true
 away:∀n,v.away n=true
 noOwn:v.noOwn=true
structure PFL (v:List V):Prop where
 weak:Du v=v
 norm:AU v=v
 clean:AQ v=true
 reify:∀h,AA h v=v
 unmut:∀h,Bh h v=v
 under:∀n,Ac n v=true
 over:∀n,CQ n v=true
 away:∀n,Au n v=true
 noOwn:Ai v=true
mutual
theorem V.PF:∀v:V,v.pl=true→PF v
 | .bool _,_=>⟨rfl,rfl,rfl,fun _=>rfl,fun _=>rfl,fun _=>rfl,fun _=>rfl,fun _=>rfl,rfl⟩
 | .int _ _,_=>⟨rfl,rfl,rfl,fun _=>rfl,fun _=>rfl,fun _=>rfl,fun _=>rfl,fun _=>rfl,rfl⟩
 | .str _,_=>⟨rfl,rfl,rfl,fun _=>rfl,fun _=>rfl,fun _=>rfl,fun _=>rfl,fun _=>rfl,rfl⟩
 | .nilp,_=>⟨rfl,rfl,rfl,fun _=>rfl,fun _=>rfl,fun _=>rfl,fun _=>rfl,fun _=>rfl,rfl⟩
 | .nilf,_=>⟨rfl,rfl,rfl,fun _=>rfl,fun _=>rfl,fun _=>rfl,fun _=>rfl,fun _=>rfl,rfl⟩
 | .nili,_=>⟨rfl,rfl,rfl,fun _=>rfl,fun _=>rfl,fun _=>rfl,fun _=>rfl,fun _=>rfl,rfl⟩
 | .ifv,_=>⟨rfl,rfl,rfl,fun _=>rfl,fun _=>rfl,fun _=>rfl,fun _=>rfl,fun _=>rfl,rfl⟩
 | .agg u fs,h=>by
   have p:=V.PFL fs h
   exact⟨by simp only[V.weak,p.weak],by simp only[V.norm,p.norm],by simp only[V.clean,p.clean],fun h=>by simp only[V.reify,p.reify],fun h=>by simp only[V.unmut,p.unmut],fun n=>by simp only[V.under,p.under],fun n=>by simp only[V.over,p.over],fun n=>by simp only[V.away,p.away],by simp only[V.noOwn,p.noOwn]⟩
 | .lst e .sh xs,h=>⟨rfl,rfl,rfl,fun _=>rfl,fun _=>rfl,fun _=>rfl,fun _=>rfl,fun _=>rfl,rfl⟩
 | .lst _ .own _,h=>by cases h
 | .lst _ .nil _,h=>by cases h
 | .lst _ .lent _,h=>by cases h
 | .row _ _,h=>by cases h
 | .win _ _ _ _ _,h=>by cases h
 | .ref _ _ _,h=>by cases h
 | .rop _ _,h=>by cases h
 | .clo _ _,h=>by cases h
 | .tup _,h=>by cases h
 | .undef,h=>by cases h
theorem V.PFL:∀v:List V,HY v=true→PFL v
 |[],_=>⟨rfl,rfl,rfl,fun _=>rfl,fun _=>rfl,fun _=>rfl,fun _=>rfl,fun _=>rfl,rfl⟩
 |x::xs,h=>by
  simp only[HY,Bool.and_eq_true]at h
  have p:=V.PF x h.1;have q:=V.PFL xs h.2
  exact⟨by simp only[Du,p.weak,q.weak],by simp only[AU,p.norm,q.norm],by simp only[AQ,p.clean,q.clean,Bool.and_self],fun h=>by simp only[AA,p.reify,q.reify],fun h=>by simp only[Bh,p.unmut,q.unmut],
   fun n=>by simp only[Ac,p.under,q.under,Bool.and_self],fun n=>by simp only[CQ,p.over,q.over,Bool.and_self],fun n=>by simp only[Au,p.away,q.away,Bool.and_self],by simp only[Ai,p.noOwn,q.noOwn,Bool.and_self]⟩
end
@[go_sem] theorem AG4 {v:V} (h:v.pl=true):v.weak=v:=(V.PF v h).weak
@[go_sem] theorem AG5 {v:V} (h:v.pl=true):v.norm=v:=(V.PF v h).norm
@[go_sem] theorem AFl {v:V} (h:v.pl=true):v.clean=true:=(V.PF v h).clean
@[go_sem] theorem AFm {v:V} (h:v.pl=true) (hp:List V):v.reify hp=v:=(V.PF v h).reify hp
@[go_sem] theorem AFn {v:V} (h:v.pl=true) (hp:List V):v.unmut hp=v:=(V.PF v h).unmut hp
@[go_sem] theorem AFo {v:V} (h:v.pl=true) (n:Nat):v.under n=true:=(V.PF v h).under n
@[go_sem] theorem AG6 {v:V} (h:v.pl=true) (n:Nat):v.over n=true:=(V.PF v h).over n
@[go_sem] theorem XI {v:List V} (h:HY v=true):AQ v=true:=(V.PFL v h).clean
@[go_sem] theorem ZK {v:List V} (h:HY v=true):AU v=v:=(V.PFL v h).norm
@[go_sem] theorem AEs {v:List V} (h:HY v=true) (hp:List V):AA hp v=v:=(V.PFL v h).reify hp
def Fl.wk:Fl→Fl| .own=> .sh|f=>f
def Fl.rf:Fl→Fl| .lent=> .lent|_=> .sh
@[go_sem] theorem AI0:Fl.wk .sh= .sh:=(rfl)
@[go_sem] theorem MB:Fl.wk .own= .sh:=(rfl)
@[go_sem] theorem MC:Fl.wk .nil= .nil:=(rfl)
@[go_sem] theorem AI1 (f:Fl):f.wk.wk=f.wk:=by cases f<;>rfl
@[go_sem] theorem AI2 (f:Fl):f.wk.rf=f.rf:=by cases f<;>rfl
@[go_sem] theorem AI3 (f:Fl):f.rf.rf=f.rf:=by cases f<;>rfl
@[go_sem] theorem AI4 (f:Fl):f.rf.wk=f.rf:=by cases f<;>rfl
@[go_sem] theorem AI5:Fl.rf .sh= .sh:=(rfl)
@[go_sem] theorem AH5:Fl.rf .own= .sh:=(rfl)
@[go_sem] theorem AH6:Fl.rf .nil= .sh:=(rfl)
@[go_sem] theorem AG7:Fl.rf .lent= .lent:=(rfl)
@[go_sem] theorem XJ (e:TypeId) (f:Fl) (xs:List V):V.weak (.lst e f xs)= .lst e f.wk xs:=by cases f<;>rfl
@[go_sem] theorem AEt {xs:List V} (h:HY xs=true) (hp:List V) (e:TypeId) (f:Fl):V.reify hp (.lst e f xs)= .lst e f.rf xs:=by
  cases f<;>simp only[V.reify,Fl.rf,(V.PFL xs h).reify]
@[go_sem] theorem AFp (e:TypeId) (f:Fl) (xs:List V):V.norm (.lst e f xs)= .lst e f.rf xs:=by cases f<;>rfl
@[go_sem] theorem AFq (h:List V) (x:V) (xs:List V):AA h (x::xs)=x.reify h::AA h xs:=(rfl)
@[go_sem] theorem AFr (h:List V):AA h []=[]:=(rfl)
@[go_sem] theorem AG8 (x:V) (xs:List V):AU (x::xs)=x.norm::AU xs:=(rfl)
@[go_sem] theorem AG9:AU []=[]:=(rfl)
@[go_sem] theorem AFs (id:Nat) (p:List Nat) (t:TypeId):V.norm (.ref id p t)= .ref id p t:=(rfl)
@[go_sem] theorem AFt (id:Nat) (p:List Nat) (o l e:Nat):V.norm (.win id p o l e)= .win id p o l e:=(rfl)
@[go_sem] theorem AFu (t:TypeId) (v:V):V.norm (.rop t v)= .rop t v:=(rfl)
@[go_sem] theorem AFv (f:FuncId) (cs:List V):V.norm (.clo f cs)= .clo f cs:=(rfl)
@[go_sem] theorem AEu (h:List V) (f:FuncId) (cs:List V):V.reify h (.clo f cs)= .clo f (AA h cs):=(rfl)
@[go_sem] theorem AEv (h:List V) (u:TypeId) (fs:List V):V.reify h (.agg u fs)= .agg u (AA h fs):=(rfl)
@[go_sem] theorem AFw (u:TypeId) (fs:List V):V.weak (.agg u fs)= .agg u (Du fs):=(rfl)
@[go_sem] theorem AHA (x:V) (xs:List V):Du (x::xs)=x.weak::Du xs:=(rfl)
@[go_sem] theorem AHB:Du []=[]:=(rfl)
@[go_sem] theorem AEw (n:Nat) (u:TypeId) (fs:List V):V.under n (.agg u fs)=Ac n fs:=(rfl)
@[go_sem] theorem AFx (n:Nat) (x:V) (xs:List V):Ac n (x::xs)=(x.under n&&Ac n xs):=(rfl)
@[go_sem] theorem AFy (n:Nat):Ac n []=true:=(rfl)
@[go_sem] theorem AEx {f:Fl} (hf:f≠ .lent) (n:Nat) (e:TypeId) (xs:List V):V.under n (.lst e f xs)=true:=by cases f<;>first|rfl|exact absurd rfl hf
@[go_sem] theorem AEy (n:Nat) (e:TypeId) (xs:List V):V.under n (.lst e .own xs)=true:=(rfl)
@[go_sem] theorem AEz (n:Nat) (e:TypeId) (xs:List V):V.under n (.lst e .nil xs)=true:=(rfl)
@[go_sem] theorem AFz (n:Nat) (e:TypeId) (xs:List V):V.under n (.lst e .sh xs)=true:=(rfl)
@[go_sem] theorem Oh {id n:Nat} (h:id<n) (p:List Nat) (t:TypeId):V.under n (.ref id p t)=true:=by simp[V.under,h]
@[go_sem] theorem AE0 {id n:Nat} (h:id<n) (p:List Nat) (o l e:Nat):V.under n (.win id p o l e)=true:=by simp[V.under,h]
theorem c0:((0:Nat):Int)=0:=(rfl)
theorem c1:((1:Nat):Int)=1:=(rfl)
@[go_sem] theorem AE1 (n:Nat) (f:FuncId) (xs:List V):V.under n (.clo f xs)=Ac n xs:=(rfl)
@[go_sem] theorem AE2 (e:TypeId) (xs:List V):V.clean (.lst e .own xs)=true:=(rfl)
@[go_sem] theorem clean_nil (e:TypeId) (xs:List V):V.clean (.lst e .nil xs)=true:=(rfl)
attribute [go_sem] Bool.and_self Bool.and_true Bool.true_and if_true
@[go_sem] theorem AHC (ty:V→Bool):List.all [] ty=true:=(rfl)
@[go_sem] theorem all_cons (ty:V→Bool) (x:V) (xs:List V):List.all (x::xs) ty=(ty x&&List.all xs ty):=(rfl)
@[go_sem] theorem AHD {v:V} (h:v.pl=true) (n:Nat) (hp:List V):AV n hp v=some (v,hp.take n):=by
  have p:=V.PF v h
  simp only[AV,p.unmut,p.norm,p.clean,p.over,Bool.and_self,if_true]
@[go_sem] theorem AF0 (n:Nat) (hp:List V) (e:TypeId) (xs:List V):AV n hp (.lst e .own xs)=some (.lst e .sh xs,hp.take n):=(rfl)
@[go_sem] theorem AF1 (n:Nat) (hp:List V) (e:TypeId) (xs:List V):AV n hp (.lst e .nil xs)=some (.lst e .sh xs,hp.take n):=(rfl)
@[go_sem] theorem AHE (n:Nat) (hp:List V) (e:TypeId) (xs:List V):AV n hp (.lst e .sh xs)=some (.lst e .sh xs,hp.take n):=(rfl)
mutual
def V.fok:V→Bool
 | .bool _=>true
 | .int _ _=>true
 | .str _=>true
 | .nilp=>true
 | .nilf=>true
 | .nili=>true
 | .ifv=>true
 | .agg _ fs=>MF fs
 | .lst _ .own _=>true
 | .lst _ .nil _=>true
 | .lst _ .sh _=>true
 |_=>false
 termination_by structural x=>x
def MF:List V→Bool
 |[]=>true
 |x::xs=>x.fok&&MF xs
 termination_by structural x=>x
end
@[go_sem] theorem AHF (u:TypeId) (fs:List V):V.fok (.agg u fs)=MF fs:=(rfl)
@[go_sem] theorem AH7:MF []=true:=(rfl)
@[go_sem] theorem AH8 (x:V) (xs:List V):MF (x::xs)=(x.fok&&MF xs):=(rfl)
@[go_sem] theorem AHG (e:TypeId) (xs:List V):V.fok (.lst e .own xs)=true:=(rfl)
@[go_sem] theorem AHH (e:TypeId) (xs:List V):V.fok (.lst e .nil xs)=true:=(rfl)
@[go_sem] theorem AH9 (e:TypeId) (xs:List V):V.fok (.lst e .sh xs)=true:=(rfl)
@[go_sem] theorem AF2 (u:TypeId) (fs:List V):V.norm (.agg u fs)= .agg u (AU fs):=(rfl)
mutual
theorem V.fok_pl':∀v:V,v.pl=true→v.fok=true
 | .bool _,_=>rfl
 | .int _ _,_=>rfl
 | .str _,_=>rfl
 | .nilp,_=>rfl
 | .nilf,_=>rfl
 | .nili,_=>rfl
 | .ifv,_=>rfl
 | .agg _ fs,h=>SB fs h
 | .lst _ .sh _,_=>rfl
 | .lst _ .own _,h=>by cases h
 | .lst _ .nil _,h=>by cases h
 | .lst _ .lent _,h=>by cases h
 | .row _ _,h=>by cases h
 | .win _ _ _ _ _,h=>by cases h
 | .ref _ _ _,h=>by cases h
 | .rop _ _,h=>by cases h
 | .clo _ _,h=>by cases h
 | .tup _,h=>by cases h
 | .undef,h=>by cases h
theorem SB:∀v:List V,HY v=true→MF v=true
 |[],_=>rfl
 |x::xs,h=>by
  simp only[HY,Bool.and_eq_true]at h
  simp only[MF,V.fok_pl' x h.1,SB xs h.2,Bool.and_self]
end
@[go_sem] theorem AIA {v:V} (h:v.pl=true):v.fok=true:=V.fok_pl' v h
mutual
theorem V.fok_all:∀v:V,v.fok=true→(∀hp,v.unmut hp=v)∧v.norm.clean=true∧(∀n,v.norm.over n=true)∧v.okE=true
 | .bool _,_=>⟨fun _=>rfl,rfl,fun _=>rfl,rfl⟩
 | .int _ _,_=>⟨fun _=>rfl,rfl,fun _=>rfl,rfl⟩
 | .str _,_=>⟨fun _=>rfl,rfl,fun _=>rfl,rfl⟩
 | .nilp,_=>⟨fun _=>rfl,rfl,fun _=>rfl,rfl⟩
 | .nilf,_=>⟨fun _=>rfl,rfl,fun _=>rfl,rfl⟩
 | .nili,_=>⟨fun _=>rfl,rfl,fun _=>rfl,rfl⟩
 | .ifv,_=>⟨fun _=>rfl,rfl,fun _=>rfl,rfl⟩
 | .agg u fs,h=>by
   obtain⟨a,b,c⟩:=MG fs h
   exact⟨fun hp=>by simp only[V.unmut,a],by simp only[V.norm,V.clean,b],fun n=>by simp only[V.norm,V.over,c],rfl⟩
 | .lst _ .own _,_=>⟨fun _=>rfl,rfl,fun _=>rfl,rfl⟩
 | .lst _ .nil _,_=>⟨fun _=>rfl,rfl,fun _=>rfl,rfl⟩
 | .lst _ .sh _,_=>⟨fun _=>rfl,rfl,fun _=>rfl,rfl⟩
 | .lst _ .lent _,h=>by cases h
 | .row _ _,h=>by cases h
 | .win _ _ _ _ _,h=>by cases h
 | .ref _ _ _,h=>by cases h
 | .rop _ _,h=>by cases h
 | .clo _ _,h=>by cases h
 | .tup _,h=>by cases h
 | .undef,h=>by cases h
theorem MG:∀v:List V,MF v=true→(∀hp,Bh hp v=v)∧AQ (AU v)=true∧(∀n,CQ n (AU v)=true)
 |[],_=>⟨fun _=>rfl,rfl,fun _=>rfl⟩
 |x::xs,h=>by
  simp only[MF,Bool.and_eq_true]at h
  obtain⟨a,b,c,_⟩:=V.fok_all x h.1;obtain⟨a',b',c'⟩:=MG xs h.2
  exact⟨fun hp=>by simp only[Bh,a,a'],by simp only[AU,AQ,b,b',Bool.and_self],fun n=>by simp only[AU,CQ,c,c',Bool.and_self]⟩
end
mutual
theorem V.over_norm:∀(v:V) (n:Nat),v.norm.over n=v.over n
 | .agg u fs,n=>by simp only[V.norm,V.over,EI]
 | .row u fs,n=>by simp only[V.norm,V.over,EI]
 | .tup fs,n=>by simp only[V.norm,V.over,EI]
 | .lst _ f _,n=>by cases f<;>rfl
 | .bool _,_=>rfl
 | .int _ _,_=>rfl
 | .str _,_=>rfl
 | .nilp,_=>rfl
 | .nilf,_=>rfl
 | .nili,_=>rfl
 | .ifv,_=>rfl
 | .win _ _ _ _ _,_=>rfl
 | .ref _ _ _,_=>rfl
 | .rop _ _,_=>rfl
 | .clo _ _,_=>rfl
 | .undef,_=>rfl
theorem EI:∀(v:List V) (n:Nat),CQ n (AU v)=CQ n v
 |[],_=>rfl
 |x::xs,n=>by simp only[AU,CQ,V.over_norm x n,EI xs n]
end
@[go_sem] theorem AF3 {u:TypeId} {fs:List V} (h:MF fs=true) (n:Nat) (hp:List V):AV n hp (.agg u fs)=some (.agg u (AU fs),hp.take n):=by
  obtain⟨a,b,c⟩:=MG fs h
  have ov:∀n,CQ n fs=true:=fun n=>by rw[←EI];exact c n
  simp only[AV,V.unmut,a,V.norm,V.clean,b,V.over,ov,Bool.and_self,if_true]
@[go_sem] theorem AHI {a:V} (ha:a.fok=true) (n:Nat) (hp:List V):AV n hp (V.tup [a])=some (.tup [a.norm],hp.take n):=by
  obtain⟨a1,a3,a4,a5⟩:=V.fok_all a ha
  simp only[V.over_norm]at a4
  simp only[AV,V.unmut,Bh,a1,V.norm,AU,V.clean,AQ,a3,V.over,CQ,a4,Bool.and_self,if_true]
@[go_sem] theorem AIB {a b:V} (ha:a.fok=true) (hb:b.fok=true) (n:Nat) (hp:List V):AV n hp (V.tup [a,b])=some (.tup [a.norm,b.norm],hp.take n):=by
  obtain⟨a1,a3,a4,a5⟩:=V.fok_all a ha;obtain⟨b1,b3,b4,b5⟩:=V.fok_all b hb
  simp only[V.over_norm]at a4 b4
  simp only[AV,V.unmut,Bh,a1,b1,V.norm,AU,V.clean,AQ,a3,b3,V.over,CQ,a4,b4,Bool.and_self,if_true]
@[go_sem] theorem AIC {a b c:V} (ha:a.fok=true) (hb:b.fok=true) (hc:c.fok=true) (n:Nat) (hp:List V):AV n hp (V.tup [a,b,c])=some (.tup [a.norm,b.norm,c.norm],hp.take n):=by
  obtain⟨a1,a3,a4,a5⟩:=V.fok_all a ha;obtain⟨b1,b3,b4,b5⟩:=V.fok_all b hb;obtain⟨c1,c3,c4,c5⟩:=V.fok_all c hc
  simp only[V.over_norm]at a4 b4 c4
  simp only[AV,V.unmut,Bh,a1,b1,c1,V.norm,AU,V.clean,AQ,a3,b3,c3,V.over,CQ,a4,b4,c4,Bool.and_self,if_true]
@[go_sem] theorem AID (n:Nat) (hp:List V):AV n hp (V.tup [])=some (.tup [],hp.take n):=(rfl)
@[go_sem] theorem AHJ {v:V} (h:v.fok=true):v.okE=true:=(V.fok_all v h).2.2.2
@[go_sem] theorem AF4 (n:Nat) (hp:List V) (e:TypeId) (xs:List V):Nl n hp (.lst e .own xs)=some (.lst e .own xs,hp.take n):=(rfl)
@[go_sem] theorem AF5 (n:Nat) (hp:List V) (e:TypeId) (xs:List V):Nl n hp (.lst e .nil xs)=some (.lst e .nil xs,hp.take n):=(rfl)
@[go_sem] theorem AI6 (a:V) (l:List V):ext (.tup (a::l)) 0=some a:=(rfl)
@[go_sem] theorem AI7 (a b:V) (l:List V):ext (.tup (a::b::l)) 1=some b:=(rfl)
@[go_sem] theorem AI8 (a b c:V) (l:List V):ext (.tup (a::b::c::l)) 2=some c:=(rfl)
@[go_sem] theorem AI9 (a b c d:V) (l:List V):ext (.tup (a::b::c::d::l)) 3=some d:=(rfl)
@[go_sem] theorem AIE (a:V) (l:List V):FB (.tup (a::l)) 0=some a.weak:=(rfl)
@[go_sem] theorem AIF (a b:V) (l:List V):FB (.tup (a::b::l)) 1=some b.weak:=(rfl)
@[go_sem] theorem AIH (a b c:V) (l:List V):FB (.tup (a::b::c::l)) 2=some c.weak:=(rfl)
@[go_sem] theorem AJA (b:Bool):tyB (.bool b)=true:=(rfl)
@[go_sem] theorem AJB (k:IntKind) (n:Int):Nh k (.int k n)=true:=by simp[Nh]
@[go_sem] theorem AJC (s:List UInt8):VH (.str s)=true:=(rfl)
@[go_sem] theorem MH (u:TypeId) (fs:List V):BA u (.agg u fs)=true:=by simp[BA]
@[go_sem] theorem AJD (e:TypeId) (f:Fl) (xs:List V):Qk e (.lst e f xs)=true:=by simp[Qk]
@[go_sem] theorem AJE (id:Nat) (p:List Nat) (t:TypeId):tyP (.ref id p t)=true:=(rfl)
@[go_sem] theorem AJF (f:FuncId) (cs:List V):tyF (.clo f cs)=true:=(rfl)
attribute [go_sem] b_lss b_leq b_gtr b_geq b_eql b_neq s_eql s_neq
@[go_sem] theorem AII (b:Bool):un .not (.bool b)=some (.bool (!b)):=(rfl)
@[go_sem high] theorem add1 {a:Nat} (h:a+1<4611686018427387904):AO .add (.int .i64 (a:Int)) (.int .i64 1)=some (.int .i64 ((a+1:Nat):Int)):=by
  rw[FZ,wrap_i64 (by omega) (by omega)];congr 2
@[go_sem high] theorem addN {a b:Nat} (h:a+b<4611686018427387904):AO .add (.int .i64 (a:Int)) (.int .i64 (b:Int))=some (.int .i64 ((a+b:Nat):Int)):=by
  rw[FZ,wrap_i64 (by omega) (by omega)];congr 2
@[go_sem high] theorem AJz {a:Nat} (h:1≤a) (h2:a<4611686018427387904):AO .sub (.int .i64 (a:Int)) (.int .i64 1)=some (.int .i64 ((a-1:Nat):Int)):=by
  rw[OU,wrap_i64 (by omega) (by omega)];congr 2;omega
@[go_sem high] theorem AF6 {a b:Nat} (h:b≤a) (h2:a<4611686018427387904):AO .sub (.int .i64 (a:Int)) (.int .i64 (b:Int))=some (.int .i64 ((a-b:Nat):Int)):=by
  rw[OU,wrap_i64 (by omega) (by omega)];congr 2;omega
@[go_sem high] theorem AJG {a:Nat} (h:a+1<18446744073709551616):AO .add (.int .u64 (a:Int)) (.int .u64 1)=some (.int .u64 ((a+1:Nat):Int)):=by
  rw[FZ,wrap_u64 (by omega) (by omega)];congr 2
@[go_sem] theorem AJH {a b:Int} (h1: -9223372036854775808≤a+b) (h2:a+b<9223372036854775808):AO .add (.int .i64 a) (.int .i64 b)=some (.int .i64 (a+b)):=by rw[FZ,wrap_i64 h1 h2]
@[go_sem] theorem AJI {a b:Int} (h1: -9223372036854775808≤a-b) (h2:a-b<9223372036854775808):AO .sub (.int .i64 a) (.int .i64 b)=some (.int .i64 (a-b)):=by rw[OU,wrap_i64 h1 h2]
@[go_sem] theorem AF7 {a b:Int} (h1: -9223372036854775808≤a*b) (h2:a*b<9223372036854775808):AO .mul (.int .i64 a) (.int .i64 b)=some (.int .i64 (a*b)):=by rw[Ri,wrap_i64 h1 h2]
theorem Oi (a b:Nat):(a:Int).tdiv b=((a/b:Nat):Int)∧(a:Int).tmod b=((a%b:Nat):Int):=⟨rfl,rfl⟩
@[go_sem] theorem AD8 {a b:Nat} (h:0<b) (k:IntKind):AO .rem (.int k (a:Int)) (.int k (b:Int))=some (.int k ((a%b:Nat):Int)):=by
  rw[Rj _ _ _ (by omega),(Oi a b).2]
@[go_sem] theorem AJ0 {a:Nat} (h2:a<9223372036854775808):AO .quo (.int .i64 (a:Int)) (.int .i64 2)=some (.int .i64 ((a/2:Nat):Int)):=by
  rw[Y0 _ _ _ (by omega),show(a:Int).tdiv 2=((a/2:Nat):Int)from rfl,wrap_i64 (by omega) (by omega)]
@[go_sem] theorem AJ1 {a b:Nat} (h:0<b) (h2:a<9223372036854775808):AO .quo (.int .i64 (a:Int)) (.int .i64 (b:Int))=some (.int .i64 ((a/b:Nat):Int)):=by
  have:=Nat.div_le_self a b
  rw[Y0 _ _ _ (by omega),(Oi a b).1]
  generalize a/b=q at*
  rw[wrap_i64 (by omega) (by omega)]
@[go_sem high] theorem AJJ (a:List UInt8):AO .eql (.str a) (.str a)=some (.bool true):=by rw[s_eql,decide_eq_true rfl]
@[go_sem high] theorem AJK (a:List UInt8):AO .neq (.str a) (.str a)=some (.bool false):=by rw[s_neq];simp
@[go_sem high] theorem AJL (k:IntKind) (a:Int):AO .eql (.int k a) (.int k a)=some (.bool true):=by rw[b_eql,decide_eq_true rfl]
@[go_sem high] theorem AJM (k:IntKind) (a:Int):AO .neq (.int k a) (.int k a)=some (.bool false):=by rw[b_neq];simp
@[go_sem] theorem AJN {a b:List UInt8} (h:a.length+b.length≤4611686018427387904):AO .add (.str a) (.str b)=some (.str (a++b)):=AFO a b h
theorem cvI_i64 {k:IntKind} {n:Int} (h1: -9223372036854775808≤n) (h2:n<9223372036854775808):UK .i64 (.int k n)=some (.int .i64 n):=by rw[UK,wrap_i64 h1 h2]
theorem cvI_u64 {k:IntKind} {n:Int} (h1:0≤n) (h2:n<18446744073709551616):UK .u64 (.int k n)=some (.int .u64 n):=by rw[UK,wrap_u64 h1 h2]
theorem cvI_u8 {k:IntKind} {n:Int} (h1:0≤n) (h2:n<256):UK .u8 (.int k n)=some (.int .u8 n):=by rw[UK,wrap_u8 h1 h2]
attribute [go_sem] cvI_i64 cvI_u64 cvI_u8
@[go_sem] theorem AJO (s:List UInt8):cvS (.str s)=some (.str s):=(rfl)
@[go_sem] theorem AJP {s:List UInt8} (h:s.length≤2147483648) (e:TypeId):cvB e (.str s)=some (.lst e .own (bytesOf s)):=if_pos h
theorem He:∀s:List UInt8,Dj (bytesOf s)=some s
 |[]=>rfl
 |x::s=>by
  have:bytesOf (x::s)= .int .u8 x.toNat::bytesOf s:=(rfl)
  rw[this]
  simp only[Dj,byteOf,He s,Int.toNat_natCast,UInt8.ofNat_toNat,Option.bind_some,Option.map_some]
@[go_sem] theorem AJQ (h:List V) (e:TypeId) (f:Fl) (s:List UInt8):cvT h (.lst e f (bytesOf s))=some (.str s):=by simp only[cvT,Ae,Option.bind_some,He,Option.map_some]
@[go_sem] theorem AIJ (s ft:TypeId) (f id:Nat) (p:List Nat):fA s ft f (.ref id p s)=some (.ref id (p++[f]) ft):=by simp[fA]
@[go_sem] theorem AIK (s ft:TypeId) (f:Nat) (u:TypeId) (xs:List V):fA s ft f (.rop s (.agg u xs))=(xs[f]?).map (.rop ft):=by simp[fA]
@[go_sem] theorem AIL (u:TypeId) (f:Nat) (hs:Bool) (xs:List V):fV u f hs (.agg u xs)=(xs[f]?).map (cpB hs):=by simp[fV]
@[go_sem] theorem AJR (v:V):cpB false v=v:=(rfl)
@[go_sem] theorem AJS (v:V):cpB true v=v.weak:=(rfl)
@[go_sem] theorem AJT (v:List V):nlB false v=v:=(rfl)
@[go_sem] theorem AJU (v:List V):nlB true v=AU v:=(rfl)
@[go_sem] theorem AF8 (h:List V) (t:TypeId) (v:V):AZ h t (.rop t v)=some v:=by simp[AZ]
@[go_sem] theorem AF9 (h:List V) (t:TypeId) (v:V):A7 h t (.rop t v)=some v.weak:=by simp[A7,AZ]
@[go_sem] theorem AD9 (h:List V) (t:TypeId) (id:Nat):AZ h t (.ref id [] t)=h[id]?:=by
  simp only[AZ,if_true,rd];cases h[id]?<;>rfl
theorem ldS_r0 (h:List V) (t:TypeId) (id:Nat):A7 h t (.ref id [] t)=(h[id]?).map V.weak:=by rw[A7,AD9]
@[go_sem] theorem AEA (h:List V) (t:TypeId) (id i:Nat):AZ h t (.ref id [i] t)=(h[id]?).bind fun v=>V.at [i] v:=by simp only[AZ,if_true,rd]
@[go_sem] theorem AIM (h:List V) (t:TypeId) (id i:Nat):A7 h t (.ref id [i] t)=((h[id]?).bind fun v=>V.at [i] v).map V.weak:=by rw[A7,AEA]
@[go_sem] theorem AJ2 (u i:Nat) (fs:List V):V.at [i] (.agg u fs)=fs[i]?:=by simp only[V.at];cases fs[i]?<;>rfl
@[go_sem] theorem AJV (u i:Nat) (fs:List V):V.at [i] (.row u fs)=fs[i]?:=by simp only[V.at];cases fs[i]?<;>rfl
attribute [go_sem] ldS_r0 List.nil_append List.cons_append List.append_assoc List.length_nil List.length_cons List.length_append List.getElem?_cons_zero List.getElem?_cons_succ Option.map_some List.length_map List.set_cons_zero List.set_cons_succ List.take_zero List.take_succ_cons List.take_nil Nat.zero_add List.length_drop List.length_take List.length_replicate
@[go_sem] theorem AEB (id:Nat) (p:List Nat) (t:TypeId):Bz (.ref id p t)=some (.ref id p t):=(rfl)
@[go_sem] theorem AEC (t:TypeId) (x:V):Bz (.rop t x)=some (.rop t x):=(rfl)
@[go_sem] theorem AED (f:FuncId) (x:List V):Bz (.clo f x)=some (.clo f x):=(rfl)
@[go_sem] theorem AIN {ty:V→Bool} {h:List V} {id:Nat} {v:V} (hi:id<h.length) (ht:ty v=true) (hu:v.under (id+1)=true) (t:TypeId):DC ty t h (.ref id [] t) v=some (h.set id v):=by
  simp only[DC,if_true,ht,hu,Bool.and_self,wr,List.getElem?_eq_getElem hi,Option.bind_some,V.upd,Option.map_some]
@[go_sem] theorem AJW {ty:V→Bool} {h:List V} {id i:Nat} {v:V} (ht:ty v=true) (hu:v.under (id+1)=true) (t:TypeId):DC ty t h (.ref id [i] t) v=(h[id]?).bind fun r=>(V.upd [i] r v).map fun r'=>h.set id r':=by
  simp only[DC,if_true,ht,hu,Bool.and_self,wr]
@[go_sem] theorem AJX {i:Nat} {fs:List V} (h:i<fs.length) (u:TypeId) (v:V):V.upd [i] (.agg u fs) v=some (.agg u (fs.set i v)):=by
  simp only[V.upd,List.getElem?_eq_getElem h,Option.bind_some,Option.map_some]
@[go_sem] theorem AIO {i:Nat} {fs:List V} (h:i<fs.length) (u:TypeId) (v:V):V.upd [i] (.row u fs) v=some (.row u (fs.set i v)):=by
  simp only[V.upd,List.getElem?_eq_getElem h,Option.bind_some,Option.map_some]
@[go_sem] theorem AJY (s:List UInt8):lnS (.str s)=some (.int .i64 s.length):=(rfl)
@[go_sem] theorem AJZ (e:TypeId) (f:Fl) (xs:List V):FC (.lst e f xs)=some (.int .i64 xs.length):=(rfl)
@[go_sem] theorem AJa (id:Nat) (p:List Nat) (o l e:Nat):FC (.win id p o l e)=some (.int .i64 l):=(rfl)
@[go_sem] theorem MI (e:TypeId) (f:Fl) (xs:List V) (k:IntKind) (i:Nat):E8 e (.lst e f xs) (.int k (i:Int))=(xs[i]?).map (.rop e):=by
  simp only[E8,inside,decide_true,Bool.true_and]
  by_cases h:i<xs.length
  ·simp[h]
  ·have:xs[i]?=none:=List.getElem?_eq_none (by omega)
   simp[h,this]
@[go_sem] theorem AJb (e:TypeId) (f:Fl) (xs:List V) (k:IntKind):E8 e (.lst e f xs) (.int k 0)=(xs[0]?).map (.rop e):=MI e f xs k 0
@[go_sem] theorem AJc (e:TypeId) (f:Fl) (xs:List V) (k:IntKind):E8 e (.lst e f xs) (.int k 1)=(xs[1]?).map (.rop e):=MI e f xs k 1
@[go_sem] theorem AJd (e:TypeId) (f:Fl) (xs:List V) (k:IntKind):E8 e (.lst e f xs) (.int k 2)=(xs[2]?).map (.rop e):=MI e f xs k 2
@[go_sem] theorem AJe (e:TypeId) (f:Fl) (xs:List V) (k:IntKind):E8 e (.lst e f xs) (.int k 3)=(xs[3]?).map (.rop e):=MI e f xs k 3
@[go_sem] theorem AGA (s:List UInt8) (k:IntKind) (i:Nat):ixT (.str s) (.int k (i:Int))=(s[i]?).map fun b=> .int .u8 b.toNat:=by
  simp only[ixT,inside]
  by_cases h:i<s.length
  ·simp[h]
  ·have:s[i]?=none:=List.getElem?_eq_none (by omega)
   simp[h,this]
@[go_sem] theorem AJf (s:List UInt8) (k:IntKind):ixT (.str s) (.int k 0)=(s[0]?).map fun b=> .int .u8 b.toNat:=AGA s k 0
@[go_sem] theorem AJg {i:Nat} {n:Nat} (h:i<n) (t u e id:Nat) (p:List Nat) (k:IntKind):ixA t u n e (.ref id p t) (.int k (i:Int))=some (.ref id (p++[i]) e):=by simp[ixA,inside,h]
@[go_sem] theorem AEE {s:List UInt8} {i:Nat} (h:i≤s.length) (k:IntKind):slT (.str s) (some (.int k (i:Int))) none=some (.str (s.drop i)):=by simp[slT,BD,h]
@[go_sem] theorem AIP {s:List UInt8} {j:Nat} (h:j≤s.length) (k:IntKind):slT (.str s) none (some (.int k (j:Int)))=some (.str (s.take j)):=by simp[slT,BD,h]
@[go_sem] theorem AGB {s:List UInt8} {i j:Nat} (h:i≤j) (h2:j≤s.length) (k k':IntKind):slT (.str s) (some (.int k (i:Int))) (some (.int k' (j:Int)))=some (.str ((s.take j).drop i)):=by simp[slT,BD,h,h2]
@[go_sem] theorem AIQ {xs:List V} {i:Nat} (h:i≤xs.length) (e:TypeId) (f:Fl) (k:IntKind):slL e (.lst e f xs) (some (.int k (i:Int))) none none=some (.lst e f.cut (xs.drop i)):=by simp[slL,BD,h]
@[go_sem] theorem AIR {xs:List V} {j:Nat} (h:j≤xs.length) (e:TypeId) (f:Fl) (k:IntKind):slL e (.lst e f xs) none (some (.int k (j:Int))) none=some (.lst e f.cut (xs.take j)):=by simp[slL,BD,h]
@[go_sem] theorem AIS {xs:List V} {j:Nat} (h:j≤xs.length) (e:TypeId) (f:Fl) (k k':IntKind):slL e (.lst e f xs) none (some (.int k (j:Int))) (some (.int k' (j:Int)))=some (.lst e f.cut (xs.take j)):=by simp[slL,BD,h]
@[go_sem] theorem AIT:Fl.cut .sh= .sh:=(rfl)
@[go_sem] theorem AHK:Fl.cut .own= .sh:=(rfl)
@[go_sem] theorem AHL:Fl.cut .nil= .nil:=(rfl)
@[go_sem] theorem AJh (t u n e id:Nat) (p:List Nat):slA t u n e (.ref id p t) none none none=some (.win id p 0 n e):=by simp[slA,BD]
@[go_sem] theorem AJ3 {α:Type} (x:α):ck [] x=some x:=(rfl)
@[go_sem] theorem AJ4 {α:Type} {b:Bool} (h:b=true) (bs:List Bool) (x:α):ck (b::bs) x=ck bs x:=by rw[ck,if_pos h]
@[go_sem] theorem AJi {xs:List V} (h:AQ xs=true) (e:TypeId) (hs:Bool):Ql e hs (some xs)=some (.lst e .own (nlB hs xs)):=by simp[Ql,h]
@[go_sem] theorem ACt (h:List V) (e:TypeId) (f:Fl) (xs:List V):Ae h (.lst e f xs)=some xs:=(rfl)
@[go_sem] theorem KJ {h:List V} {g:Fl} {ys:List V} {ty:V→Bool} {xs:List V} (hc:AQ ys=true) (ht:ys.all ty=true) (hl:xs.length+ys.length≤2147483648) (e e':TypeId) (hs:Bool):
 PO e ty hs h (.lst e .own xs) (.lst e' g ys)=some (.lst e .own (xs++nlB hs ys)):=by
  have hy:Ae h (.lst e' g ys)=some ys:=rfl
  simp[PO,hy,hc,ht,C9,hl]
theorem ABX {h:List V} {g:Fl} {ys:List V} {ty:V→Bool} {xs:List V} (hc:AQ ys=true) (ht:ys.all ty=true) (hl:xs.length+ys.length≤2147483648) (hn:ys.isEmpty=false) (e e':TypeId) (hs:Bool):
 PO e ty hs h (.lst e .nil xs) (.lst e' g ys)=some (.lst e .own (xs++nlB hs ys)):=by
 have hy:Ae h (.lst e' g ys)=some ys:=rfl
 simp[PO,hy,hc,ht,C9,hl,hn]
@[go_sem] theorem ZL {h:List V} {g:Fl} {y:V} {ys:List V} {ty:V→Bool} {xs:List V} (hc:AQ (y::ys)=true) (ht:(y::ys).all ty=true) (hl:xs.length+(y::ys).length≤2147483648) (e e':TypeId) (hs:Bool):
 PO e ty hs h (.lst e .nil xs) (.lst e' g (y::ys))=some (.lst e .own (xs++nlB hs (y::ys))):=ABX hc ht hl rfl e e' hs
@[go_sem] theorem AGC {h:List V} {g:Fl} {ty:V→Bool} (e e':TypeId) (hs:Bool):PO e ty hs h (.lst e .nil []) (.lst e' g [])=some (.lst e .nil []):=by
  cases hs<;>simp[PO,Ae,AQ,C9,nlB,AU]
@[go_sem] theorem AHM (e e':TypeId):Gz .eql (.lst e .nil []) (.lst e' .nil [])=some (.bool true):=(rfl)
@[go_sem] theorem AE3 (e e':TypeId) (xs:List V):Gz .eql (.lst e .non xs) (.lst e' .nil [])=some (.bool false):=by cases xs<;>rfl
@[go_sem] theorem AHN (e e':TypeId) (x:V) (xs:List V):Gz .eql (.lst e .sh (x::xs)) (.lst e' .nil [])=some (.bool false):=(rfl)
@[go_sem] theorem AIU:Fl.wk .non= .non:=(rfl)
theorem all_map {α:Type} {c:α→V} {ty:V→Bool} (h:∀a,ty (c a)=true) (l:List α):(l.map c).all ty=true:=by simp[h]
@[go_sem] theorem AGD:AQ []=true:=(rfl)
@[go_sem] theorem AGE (x:V) (xs:List V):AQ (x::xs)=(x.clean&&AQ xs):=(rfl)
@[go_sem] theorem AHO (b:Bool):V.noOwn (.bool b)=true:=(rfl)
@[go_sem] theorem AHP (k:IntKind) (n:Int):V.noOwn (.int k n)=true:=(rfl)
@[go_sem] theorem AGF {v:V} (h:v.pl=true):v.noOwn=true:=(V.PF v h).noOwn
@[go_sem] theorem AIV {ty:V→Bool} {x y:V} {b:Bool} (hx:ty x=true) (hy:ty y=true) (h:IY x y=some b):YL ty .eql x y=some (.bool b):=by simp[YL,hx,hy,h]
theorem eqT_bool (a b:Bool):YL tyB .eql (.bool a) (.bool b)=some (.bool (a==b)):=by simp[YL,tyB,IY]
theorem eqT_nbool (a b:Bool):YL tyB .neq (.bool a) (.bool b)=some (.bool (!(a==b))):=by simp[YL,tyB,IY]
attribute [go_sem] eqT_bool eqT_nbool
@[go_sem] theorem AIW (id id' k:Nat) (t t':TypeId):Wu (.ref id [] t) k (.ref id' [k] t')=true:=by simp[Wu]
end AM
end
end Go.Proofs.YtiegkempfolgcaaGreatDoor
