/-
  Part of the proof of a statement about the given program: an abstract machine over its code, the simulation, its functions' equations, what they compute.
-/
import Derived.Attr
import Derived.Test.YtoakaehjnbhgmaaGreatDoorMg3
import Derived.Test.YtoakaehjnbhgmaaGreatDoorMg7
set_option linter.unusedVariables false
set_option linter.unusedSimpArgs false
set_option linter.unusedSectionVars false
noncomputable section
namespace Go.Proofs.YtoakaehjnbhgmaaGreatDoor
section
namespace AM
open Go
@[congr] theorem ANQ {A B:Type} {x y:Option A} (h:x=y) (K:A→Option B):x.bind K=y.bind K:=by rw[h]
@[congr] theorem AOn {B:Type} {x y:V} (h:x=y) (a b:Option B):V.ite x a b=V.ite y a b:=by rw[h]
attribute [go_sem] Option.bind_some
@[go_sem] theorem FD {B:Type} (a b:Option B):V.ite (.bool true) a b=a:=(rfl)
@[go_sem] theorem Ee {B:Type} (a b:Option B):V.ite (.bool false) a b=b:=(rfl)
@[go_sem] theorem ALT {B:Type} {p:Bool} (h:p=true) (a b:Option B):V.ite (.bool p) a b=a:=by rw[h];rfl
@[go_sem] theorem AMS {B:Type} {p:Bool} (h:¬p=true) (a b:Option B):V.ite (.bool p) a b=b:=by cases p<;>first|rfl|exact absurd rfl h
@[go_sem] theorem DF {B:Type} {p:Prop} [Decidable p] (h:p) (a b:Option B):V.ite (.bool (decide p)) a b=a:=by rw[decide_eq_true h];rfl
@[go_sem] theorem Bq {B:Type} {p:Prop} [Decidable p] (h:¬p) (a b:Option B):V.ite (.bool (decide p)) a b=b:=by rw[decide_eq_false h];rfl
@[go_sem] theorem ALU {B:Type} (p:Bool) (a b:Option B):V.ite (.bool (!p)) a b=V.ite (.bool p) b a:=by cases p<;>rfl
theorem AO {α β:Type} (k:α) (f:α→β):jn k f=f k:=(rfl)
mutual
def V.pl:V→Bool
 | .bool _=>true
 | .int _ _=>true
 | .str _=>true
 | .nilp=>true
 | .nilf=>true
 | .nili=>true
 | .ifv=>true
 | .agg _ fs=>I5 fs
 | .lst _ .sh xs=>I5 xs
 |_=>false
 termination_by structural x=>x
def I5:List V→Bool
 |[]=>true
 |x::xs=>x.pl&&I5 xs
 termination_by structural x=>x
end
@[go_sem] theorem pl_bool (b:Bool):V.pl (.bool b)=true:=(rfl)
@[go_sem] theorem pl_int (k:IntKind) (n:Int):V.pl (.int k n)=true:=(rfl)
@[go_sem] theorem AMT (s:List UInt8):V.pl (.str s)=true:=(rfl)
@[go_sem] theorem ALV:V.pl .nilp=true:=(rfl)
@[go_sem] theorem ALW:V.pl .nili=true:=(rfl)
@[go_sem] theorem AMU (u:TypeId) (fs:List V):V.pl (.agg u fs)=I5 fs:=(rfl)
@[go_sem] theorem AMV (e:TypeId) (xs:List V):V.pl (.lst e .sh xs)=I5 xs:=(rfl)
@[go_sem] theorem ALX:I5 []=true:=(rfl)
@[go_sem] theorem AKC (x:V) (xs:List V):I5 (x::xs)=(x.pl&&I5 xs):=(rfl)
theorem AFW (xs:List V):I5 xs=xs.all V.pl:=by
 induction xs with
 |nil=>rfl
 |cons x xs ih=>simp only[I5,List.all_cons,ih]
theorem DN {α:Type} {c:α→V} (h:∀a,(c a).pl=true) (l:List α):I5 (l.map c)=true:=by
 rw[AFW];simp[h]
theorem Qd (l:List UInt8):I5 (bytesOf l)=true:=DN (fun _=>rfl) l
structure PF (v:V):Prop where
 weak:v.weak=v
 norm:v.norm=v
 clean:v.clean=true
 reify:∀h,v.reify h=v
 unmut:∀h,v.unmut h=v
 under:∀n,v.under n=true
 over:∀n,v.over n=true
 away:∀n,v.away n=true
 noOwn:v.noOwn=true
structure PFL (v:List V):Prop where
 weak:ED v=v
 norm:AY v=v
 clean:AQ v=true
 reify:∀h,AA h v=v
 unmut:∀h,CB h v=v
 under:∀n,Aa n v=true
 over:∀n,DC n v=true
 away:∀n,Bo n v=true
 noOwn:Ak v=true
mutual
theorem V.PF:∀v:V,v.pl=true→PF v
 | .bool _,_=>⟨rfl,rfl,rfl,fun _=>rfl,fun _=>rfl,fun _=>rfl,fun _=>rfl,fun _=>rfl,rfl⟩
 | .int _ _,_=>⟨rfl,rfl,rfl,fun _=>rfl,fun _=>rfl,fun _=>rfl,fun _=>rfl,fun _=>rfl,rfl⟩
 | .str _,_=>⟨rfl,rfl,rfl,fun _=>rfl,fun _=>rfl,fun _=>rfl,fun _=>rfl,fun _=>rfl,rfl⟩
 | .nilp,_=>⟨rfl,rfl,rfl,fun _=>rfl,fun _=>rfl,fun _=>rfl,fun _=>rfl,fun _=>rfl,rfl⟩
 | .nilf,_=>⟨rfl,rfl,rfl,fun _=>rfl,fun _=>rfl,fun _=>rfl,fun _=>rfl,fun _=>rfl,rfl⟩
 | .nili,_=>⟨rfl,rfl,rfl,fun _=>rfl,fun _=>rfl,fun _=>rfl,fun _=>rfl,fun _=>rfl,rfl⟩
 | .ifv,_=>⟨rfl,rfl,rfl,fun _=>rfl,fun _=>rfl,fun _=>rfl,fun _=>rfl,fun _=>rfl,rfl⟩
 | .agg u fs,h=>by
   have p:=V.PFL fs h
   exact⟨by simp only[V.weak,p.weak],by simp only[V.norm,p.norm],by simp only[V.clean,p.clean],fun h=>by simp only[V.reify,p.reify],fun h=>by simp only[V.unmut,p.unmut],fun n=>by simp only[V.under,p.under],fun n=>by simp only[V.over,p.over],fun n=>by simp only[V.away,p.away],by simp only[V.noOwn,p.noOwn]⟩
 | .lst e .sh xs,h=>⟨rfl,rfl,rfl,fun _=>rfl,fun _=>rfl,fun _=>rfl,fun _=>rfl,fun _=>rfl,rfl⟩
 | .lst _ .own _,h=>by cases h
 | .lst _ .nil _,h=>by cases h
 | .lst _ .lent _,h=>by cases h
 | .row _ _,h=>by cases h
 | .win _ _ _ _ _,h=>by cases h
 | .ref _ _ _,h=>by cases h
 | .rop _ _,h=>by cases h
 | .clo _ _,h=>by cases h
 | .tup _,h=>by cases h
 | .undef,h=>by cases h
theorem V.PFL:∀v:List V,I5 v=true→PFL v
 |[],_=>⟨rfl,rfl,rfl,fun _=>rfl,fun _=>rfl,fun _=>rfl,fun _=>rfl,fun _=>rfl,rfl⟩
 |x::xs,h=>by
  simp only[I5,Bool.and_eq_true]at h
  have p:=V.PF x h.1;have q:=V.PFL xs h.2
  exact⟨by simp only[ED,p.weak,q.weak],by simp only[AY,p.norm,q.norm],by simp only[AQ,p.clean,q.clean,Bool.and_self],fun h=>by simp only[AA,p.reify,q.reify],fun h=>by simp only[CB,p.unmut,q.unmut],
   fun n=>by simp only[Aa,p.under,q.under,Bool.and_self],fun n=>by simp only[DC,p.over,q.over,Bool.and_self],fun n=>by simp only[Bo,p.away,q.away,Bool.and_self],by simp only[Ak,p.noOwn,q.noOwn,Bool.and_self]⟩
end
@[go_sem] theorem ALY {v:V} (h:v.pl=true):v.weak=v:=(V.PF v h).weak
@[go_sem] theorem ALZ {v:V} (h:v.pl=true):v.norm=v:=(V.PF v h).norm
@[go_sem] theorem AKD {v:V} (h:v.pl=true):v.clean=true:=(V.PF v h).clean
@[go_sem] theorem AKE {v:V} (h:v.pl=true) (hp:List V):v.reify hp=v:=(V.PF v h).reify hp
@[go_sem] theorem AKF {v:V} (h:v.pl=true) (hp:List V):v.unmut hp=v:=(V.PF v h).unmut hp
@[go_sem] theorem AKG {v:V} (h:v.pl=true) (n:Nat):v.under n=true:=(V.PF v h).under n
@[go_sem] theorem ALa {v:V} (h:v.pl=true) (n:Nat):v.over n=true:=(V.PF v h).over n
@[go_sem] theorem Qe {v:List V} (h:I5 v=true):AQ v=true:=(V.PFL v h).clean
@[go_sem] theorem VJ {v:List V} (h:I5 v=true):AY v=v:=(V.PFL v h).norm
@[go_sem] theorem AJH {v:List V} (h:I5 v=true) (hp:List V):AA hp v=v:=(V.PFL v h).reify hp
def Fl.wk:Fl→Fl| .own=> .sh|f=>f
def Fl.rf:Fl→Fl| .lent=> .lent|_=> .sh
@[go_sem] theorem ANR:Fl.wk .sh= .sh:=(rfl)
@[go_sem] theorem SG:Fl.wk .own= .sh:=(rfl)
@[go_sem] theorem SH:Fl.wk .nil= .nil:=(rfl)
@[go_sem] theorem ANT (f:Fl):f.wk.wk=f.wk:=by cases f<;>rfl
@[go_sem] theorem ANU (f:Fl):f.wk.rf=f.rf:=by cases f<;>rfl
@[go_sem] theorem ANV (f:Fl):f.rf.rf=f.rf:=by cases f<;>rfl
@[go_sem] theorem ANW (f:Fl):f.rf.wk=f.rf:=by cases f<;>rfl
@[go_sem] theorem ANX:Fl.rf .sh= .sh:=(rfl)
@[go_sem] theorem AMW:Fl.rf .own= .sh:=(rfl)
@[go_sem] theorem AMX:Fl.rf .nil= .sh:=(rfl)
@[go_sem] theorem ALb:Fl.rf .lent= .lent:=(rfl)
@[go_sem] theorem Zy (e:TypeId) (f:Fl) (xs:List V):V.weak (.lst e f xs)= .lst e f.wk xs:=by cases f<;>rfl
@[go_sem] theorem AJI {xs:List V} (h:I5 xs=true) (hp:List V) (e:TypeId) (f:Fl):V.reify hp (.lst e f xs)= .lst e f.rf xs:=by
  cases f<;>simp only[V.reify,Fl.rf,(V.PFL xs h).reify]
@[go_sem] theorem AKH (e:TypeId) (f:Fl) (xs:List V):V.norm (.lst e f xs)= .lst e f.rf xs:=by cases f<;>rfl
@[go_sem] theorem AKI (h:List V) (x:V) (xs:List V):AA h (x::xs)=x.reify h::AA h xs:=(rfl)
@[go_sem] theorem AKJ (h:List V):AA h []=[]:=(rfl)
@[go_sem] theorem ALc (x:V) (xs:List V):AY (x::xs)=x.norm::AY xs:=(rfl)
@[go_sem] theorem ALd:AY []=[]:=(rfl)
@[go_sem] theorem AKK (id:Nat) (p:List Nat) (t:TypeId):V.norm (.ref id p t)= .ref id p t:=(rfl)
@[go_sem] theorem AKL (id:Nat) (p:List Nat) (o l e:Nat):V.norm (.win id p o l e)= .win id p o l e:=(rfl)
@[go_sem] theorem AKM (t:TypeId) (v:V):V.norm (.rop t v)= .rop t v:=(rfl)
@[go_sem] theorem AKN (f:FuncId) (cs:List V):V.norm (.clo f cs)= .clo f cs:=(rfl)
@[go_sem] theorem AJJ (h:List V) (f:FuncId) (cs:List V):V.reify h (.clo f cs)= .clo f (AA h cs):=(rfl)
@[go_sem] theorem AJK (h:List V) (u:TypeId) (fs:List V):V.reify h (.agg u fs)= .agg u (AA h fs):=(rfl)
@[go_sem] theorem AKO (u:TypeId) (fs:List V):V.weak (.agg u fs)= .agg u (ED fs):=(rfl)
@[go_sem] theorem ALe (x:V) (xs:List V):ED (x::xs)=x.weak::ED xs:=(rfl)
@[go_sem] theorem ALf:ED []=[]:=(rfl)
@[go_sem] theorem AJL (n:Nat) (u:TypeId) (fs:List V):V.under n (.agg u fs)=Aa n fs:=(rfl)
@[go_sem] theorem AKP (n:Nat) (x:V) (xs:List V):Aa n (x::xs)=(x.under n&&Aa n xs):=(rfl)
@[go_sem] theorem AKQ (n:Nat):Aa n []=true:=(rfl)
@[go_sem] theorem AJM {f:Fl} (hf:f≠ .lent) (n:Nat) (e:TypeId) (xs:List V):V.under n (.lst e f xs)=true:=by cases f<;>first|rfl|exact absurd rfl hf
@[go_sem] theorem AJN (n:Nat) (e:TypeId) (xs:List V):V.under n (.lst e .own xs)=true:=(rfl)
@[go_sem] theorem AJO (n:Nat) (e:TypeId) (xs:List V):V.under n (.lst e .nil xs)=true:=(rfl)
@[go_sem] theorem AKR (n:Nat) (e:TypeId) (xs:List V):V.under n (.lst e .sh xs)=true:=(rfl)
@[go_sem] theorem Qg {id n:Nat} (h:id<n) (p:List Nat) (t:TypeId):V.under n (.ref id p t)=true:=by simp[V.under,h]
@[go_sem] theorem AJP {id n:Nat} (h:id<n) (p:List Nat) (o l e:Nat):V.under n (.win id p o l e)=true:=by simp[V.under,h]
theorem c0:((0:Nat):Int)=0:=(rfl)
theorem c1:((1:Nat):Int)=1:=(rfl)
@[go_sem] theorem AJQ (n:Nat) (f:FuncId) (xs:List V):V.under n (.clo f xs)=Aa n xs:=(rfl)
@[go_sem] theorem AJR (e:TypeId) (xs:List V):V.clean (.lst e .own xs)=true:=(rfl)
@[go_sem] theorem clean_nil (e:TypeId) (xs:List V):V.clean (.lst e .nil xs)=true:=(rfl)
attribute [go_sem] Bool.and_self Bool.and_true Bool.true_and if_true
@[go_sem] theorem ALg (ty:V→Bool):List.all [] ty=true:=(rfl)
@[go_sem] theorem all_cons (ty:V→Bool) (x:V) (xs:List V):List.all (x::xs) ty=(ty x&&List.all xs ty):=(rfl)
@[go_sem] theorem ALh {v:V} (h:v.pl=true) (n:Nat) (hp:List V):AV n hp v=some (v,hp.take n):=by
  have p:=V.PF v h
  simp only[AV,p.unmut,p.norm,p.clean,p.over,Bool.and_self,if_true]
@[go_sem] theorem AKS (n:Nat) (hp:List V) (e:TypeId) (xs:List V):AV n hp (.lst e .own xs)=some (.lst e .sh xs,hp.take n):=(rfl)
@[go_sem] theorem AKT (n:Nat) (hp:List V) (e:TypeId) (xs:List V):AV n hp (.lst e .nil xs)=some (.lst e .sh xs,hp.take n):=(rfl)
@[go_sem] theorem ALi (n:Nat) (hp:List V) (e:TypeId) (xs:List V):AV n hp (.lst e .sh xs)=some (.lst e .sh xs,hp.take n):=(rfl)
mutual
def V.fok:V→Bool
 | .bool _=>true
 | .int _ _=>true
 | .str _=>true
 | .nilp=>true
 | .nilf=>true
 | .nili=>true
 | .ifv=>true
 | .agg _ fs=>Oq fs
 | .lst _ .own _=>true
 | .lst _ .nil _=>true
 | .lst _ .sh _=>true
 |_=>false
 termination_by structural x=>x
def Oq:List V→Bool
 |[]=>true
 |x::xs=>x.fok&&Oq xs
 termination_by structural x=>x
end
@[go_sem] theorem ALj (u:TypeId) (fs:List V):V.fok (.agg u fs)=Oq fs:=(rfl)
@[go_sem] theorem AMY:Oq []=true:=(rfl)
@[go_sem] theorem AMZ (x:V) (xs:List V):Oq (x::xs)=(x.fok&&Oq xs):=(rfl)
@[go_sem] theorem ALk (e:TypeId) (xs:List V):V.fok (.lst e .own xs)=true:=(rfl)
@[go_sem] theorem ALl (e:TypeId) (xs:List V):V.fok (.lst e .nil xs)=true:=(rfl)
@[go_sem] theorem AMa (e:TypeId) (xs:List V):V.fok (.lst e .sh xs)=true:=(rfl)
@[go_sem] theorem AKU (u:TypeId) (fs:List V):V.norm (.agg u fs)= .agg u (AY fs):=(rfl)
mutual
theorem V.fok_pl':∀v:V,v.pl=true→v.fok=true
 | .bool _,_=>rfl
 | .int _ _,_=>rfl
 | .str _,_=>rfl
 | .nilp,_=>rfl
 | .nilf,_=>rfl
 | .nili,_=>rfl
 | .ifv,_=>rfl
 | .agg _ fs,h=>VK fs h
 | .lst _ .sh _,_=>rfl
 | .lst _ .own _,h=>by cases h
 | .lst _ .nil _,h=>by cases h
 | .lst _ .lent _,h=>by cases h
 | .row _ _,h=>by cases h
 | .win _ _ _ _ _,h=>by cases h
 | .ref _ _ _,h=>by cases h
 | .rop _ _,h=>by cases h
 | .clo _ _,h=>by cases h
 | .tup _,h=>by cases h
 | .undef,h=>by cases h
theorem VK:∀v:List V,I5 v=true→Oq v=true
 |[],_=>rfl
 |x::xs,h=>by
  simp only[I5,Bool.and_eq_true]at h
  simp only[Oq,V.fok_pl' x h.1,VK xs h.2,Bool.and_self]
end
@[go_sem] theorem AMb {v:V} (h:v.pl=true):v.fok=true:=V.fok_pl' v h
mutual
theorem V.fok_all:∀v:V,v.fok=true→(∀hp,v.unmut hp=v)∧v.norm.clean=true∧(∀n,v.norm.over n=true)∧v.okE=true
 | .bool _,_=>⟨fun _=>rfl,rfl,fun _=>rfl,rfl⟩
 | .int _ _,_=>⟨fun _=>rfl,rfl,fun _=>rfl,rfl⟩
 | .str _,_=>⟨fun _=>rfl,rfl,fun _=>rfl,rfl⟩
 | .nilp,_=>⟨fun _=>rfl,rfl,fun _=>rfl,rfl⟩
 | .nilf,_=>⟨fun _=>rfl,rfl,fun _=>rfl,rfl⟩
 | .nili,_=>⟨fun _=>rfl,rfl,fun _=>rfl,rfl⟩
 | .ifv,_=>⟨fun _=>rfl,rfl,fun _=>rfl,rfl⟩
 | .agg u fs,h=>by
   obtain⟨a,b,c⟩:=Ot fs h
   exact⟨fun hp=>by simp only[V.unmut,a],by simp only[V.norm,V.clean,b],fun n=>by simp only[V.norm,V.over,c],rfl⟩
 | .lst _ .own _,_=>⟨fun _=>rfl,rfl,fun _=>rfl,rfl⟩
 | .lst _ .nil _,_=>⟨fun _=>rfl,rfl,fun _=>rfl,rfl⟩
 | .lst _ .sh _,_=>⟨fun _=>rfl,rfl,fun _=>rfl,rfl⟩
 | .lst _ .lent _,h=>by cases h
 | .row _ _,h=>by cases h
 | .win _ _ _ _ _,h=>by cases h
 | .ref _ _ _,h=>by cases h
 | .rop _ _,h=>by cases h
 | .clo _ _,h=>by cases h
 | .tup _,h=>by cases h
 | .undef,h=>by cases h
theorem Ot:∀v:List V,Oq v=true→(∀hp,CB hp v=v)∧AQ (AY v)=true∧(∀n,DC n (AY v)=true)
 |[],_=>⟨fun _=>rfl,rfl,fun _=>rfl⟩
 |x::xs,h=>by
  simp only[Oq,Bool.and_eq_true]at h
  obtain⟨a,b,c,_⟩:=V.fok_all x h.1;obtain⟨a',b',c'⟩:=Ot xs h.2
  exact⟨fun hp=>by simp only[CB,a,a'],by simp only[AY,AQ,b,b',Bool.and_self],fun n=>by simp only[AY,DC,c,c',Bool.and_self]⟩
end
mutual
theorem V.over_norm:∀(v:V) (n:Nat),v.norm.over n=v.over n
 | .agg u fs,n=>by simp only[V.norm,V.over,Ef]
 | .row u fs,n=>by simp only[V.norm,V.over,Ef]
 | .tup fs,n=>by simp only[V.norm,V.over,Ef]
 | .lst _ f _,n=>by cases f<;>rfl
 | .bool _,_=>rfl
 | .int _ _,_=>rfl
 | .str _,_=>rfl
 | .nilp,_=>rfl
 | .nilf,_=>rfl
 | .nili,_=>rfl
 | .ifv,_=>rfl
 | .win _ _ _ _ _,_=>rfl
 | .ref _ _ _,_=>rfl
 | .rop _ _,_=>rfl
 | .clo _ _,_=>rfl
 | .undef,_=>rfl
theorem Ef:∀(v:List V) (n:Nat),DC n (AY v)=DC n v
 |[],_=>rfl
 |x::xs,n=>by simp only[AY,DC,V.over_norm x n,Ef xs n]
end
@[go_sem] theorem AKV {u:TypeId} {fs:List V} (h:Oq fs=true) (n:Nat) (hp:List V):AV n hp (.agg u fs)=some (.agg u (AY fs),hp.take n):=by
  obtain⟨a,b,c⟩:=Ot fs h
  have ov:∀n,DC n fs=true:=fun n=>by rw[←Ef];exact c n
  simp only[AV,V.unmut,a,V.norm,V.clean,b,V.over,ov,Bool.and_self,if_true]
@[go_sem] theorem ALm {a:V} (ha:a.fok=true) (n:Nat) (hp:List V):AV n hp (V.tup [a])=some (.tup [a.norm],hp.take n):=by
  obtain⟨a1,a3,a4,a5⟩:=V.fok_all a ha
  simp only[V.over_norm]at a4
  simp only[AV,V.unmut,CB,a1,V.norm,AY,V.clean,AQ,a3,V.over,DC,a4,Bool.and_self,if_true]
@[go_sem] theorem AMc {a b:V} (ha:a.fok=true) (hb:b.fok=true) (n:Nat) (hp:List V):AV n hp (V.tup [a,b])=some (.tup [a.norm,b.norm],hp.take n):=by
  obtain⟨a1,a3,a4,a5⟩:=V.fok_all a ha;obtain⟨b1,b3,b4,b5⟩:=V.fok_all b hb
  simp only[V.over_norm]at a4 b4
  simp only[AV,V.unmut,CB,a1,b1,V.norm,AY,V.clean,AQ,a3,b3,V.over,DC,a4,b4,Bool.and_self,if_true]
@[go_sem] theorem AMd {a b c:V} (ha:a.fok=true) (hb:b.fok=true) (hc:c.fok=true) (n:Nat) (hp:List V):AV n hp (V.tup [a,b,c])=some (.tup [a.norm,b.norm,c.norm],hp.take n):=by
  obtain⟨a1,a3,a4,a5⟩:=V.fok_all a ha;obtain⟨b1,b3,b4,b5⟩:=V.fok_all b hb;obtain⟨c1,c3,c4,c5⟩:=V.fok_all c hc
  simp only[V.over_norm]at a4 b4 c4
  simp only[AV,V.unmut,CB,a1,b1,c1,V.norm,AY,V.clean,AQ,a3,b3,c3,V.over,DC,a4,b4,c4,Bool.and_self,if_true]
@[go_sem] theorem AMe (n:Nat) (hp:List V):AV n hp (V.tup [])=some (.tup [],hp.take n):=(rfl)
@[go_sem] theorem ALn {v:V} (h:v.fok=true):v.okE=true:=(V.fok_all v h).2.2.2
@[go_sem] theorem AKW (n:Nat) (hp:List V) (e:TypeId) (xs:List V):Pq n hp (.lst e .own xs)=some (.lst e .own xs,hp.take n):=(rfl)
@[go_sem] theorem AKX (n:Nat) (hp:List V) (e:TypeId) (xs:List V):Pq n hp (.lst e .nil xs)=some (.lst e .nil xs,hp.take n):=(rfl)
@[go_sem] theorem ANZ (a:V) (l:List V):ext (.tup (a::l)) 0=some a:=(rfl)
@[go_sem] theorem ANa (a b:V) (l:List V):ext (.tup (a::b::l)) 1=some b:=(rfl)
@[go_sem] theorem ANb (a b c:V) (l:List V):ext (.tup (a::b::c::l)) 2=some c:=(rfl)
@[go_sem] theorem ANc (a b c d:V) (l:List V):ext (.tup (a::b::c::d::l)) 3=some d:=(rfl)
@[go_sem] theorem AMf (a:V) (l:List V):ND (.tup (a::l)) 0=some a.weak:=(rfl)
@[go_sem] theorem AMg (a b:V) (l:List V):ND (.tup (a::b::l)) 1=some b.weak:=(rfl)
@[go_sem] theorem AMh (a b c:V) (l:List V):ND (.tup (a::b::c::l)) 2=some c.weak:=(rfl)
@[go_sem] theorem ANd (b:Bool):tyB (.bool b)=true:=(rfl)
@[go_sem] theorem ANe (k:IntKind) (n:Int):Pv k (.int k n)=true:=by simp[Pv]
@[go_sem] theorem ANf (s:List UInt8):Xl (.str s)=true:=(rfl)
@[go_sem] theorem Ou (u:TypeId) (fs:List V):CG u (.agg u fs)=true:=by simp[CG]
@[go_sem] theorem ANg (e:TypeId) (f:Fl) (xs:List V):Xm e (.lst e f xs)=true:=by simp[Xm]
@[go_sem] theorem ANh (id:Nat) (p:List Nat) (t:TypeId):tyP (.ref id p t)=true:=(rfl)
@[go_sem] theorem ANi (f:FuncId) (cs:List V):tyF (.clo f cs)=true:=(rfl)
attribute [go_sem] b_lss b_leq b_gtr b_geq b_eql b_neq s_eql s_neq
@[go_sem] theorem AMi (b:Bool):un .not (.bool b)=some (.bool (!b)):=(rfl)
@[go_sem high] theorem add1 {a:Nat} (h:a+1<4611686018427387904):AL .add (.int .i64 (a:Int)) (.int .i64 1)=some (.int .i64 ((a+1:Nat):Int)):=by
  rw[FB,wrap_i64 (by omega) (by omega)];congr 2
@[go_sem high] theorem addN {a b:Nat} (h:a+b<4611686018427387904):AL .add (.int .i64 (a:Int)) (.int .i64 (b:Int))=some (.int .i64 ((a+b:Nat):Int)):=by
  rw[FB,wrap_i64 (by omega) (by omega)];congr 2
@[go_sem high] theorem AOo {a:Nat} (h:1≤a) (h2:a<4611686018427387904):AL .sub (.int .i64 (a:Int)) (.int .i64 1)=some (.int .i64 ((a-1:Nat):Int)):=by
  rw[JX,wrap_i64 (by omega) (by omega)];congr 2;omega
@[go_sem high] theorem AKY {a b:Nat} (h:b≤a) (h2:a<4611686018427387904):AL .sub (.int .i64 (a:Int)) (.int .i64 (b:Int))=some (.int .i64 ((a-b:Nat):Int)):=by
  rw[JX,wrap_i64 (by omega) (by omega)];congr 2;omega
@[go_sem high] theorem ANj {a:Nat} (h:a+1<18446744073709551616):AL .add (.int .u64 (a:Int)) (.int .u64 1)=some (.int .u64 ((a+1:Nat):Int)):=by
  rw[FB,wrap_u64 (by omega) (by omega)];congr 2
@[go_sem] theorem ANk {a b:Int} (h1: -9223372036854775808≤a+b) (h2:a+b<9223372036854775808):AL .add (.int .i64 a) (.int .i64 b)=some (.int .i64 (a+b)):=by rw[FB,wrap_i64 h1 h2]
@[go_sem] theorem ANl {a b:Int} (h1: -9223372036854775808≤a-b) (h2:a-b<9223372036854775808):AL .sub (.int .i64 a) (.int .i64 b)=some (.int .i64 (a-b)):=by rw[JX,wrap_i64 h1 h2]
@[go_sem] theorem AB5 {a b:Int} (h1: -9223372036854775808≤a*b) (h2:a*b<9223372036854775808):AL .mul (.int .i64 a) (.int .i64 b)=some (.int .i64 (a*b)):=by rw[QO,wrap_i64 h1 h2]
theorem KL (a b:Nat):(a:Int).tdiv b=((a/b:Nat):Int)∧(a:Int).tmod b=((a%b:Nat):Int):=⟨rfl,rfl⟩
@[go_sem] theorem AB6 {a b:Nat} (h:0<b) (k:IntKind):AL .rem (.int k (a:Int)) (.int k (b:Int))=some (.int k ((a%b:Nat):Int)):=by
  rw[LM _ _ _ (by omega),(KL a b).2]
@[go_sem] theorem AOp {a:Nat} (h2:a<9223372036854775808):AL .quo (.int .i64 (a:Int)) (.int .i64 2)=some (.int .i64 ((a/2:Nat):Int)):=by
  rw[Uz _ _ _ (by omega),show(a:Int).tdiv 2=((a/2:Nat):Int)from rfl,wrap_i64 (by omega) (by omega)]
@[go_sem] theorem AOq {a b:Nat} (h:0<b) (h2:a<9223372036854775808):AL .quo (.int .i64 (a:Int)) (.int .i64 (b:Int))=some (.int .i64 ((a/b:Nat):Int)):=by
  have:=Nat.div_le_self a b
  rw[Uz _ _ _ (by omega),(KL a b).1]
  generalize a/b=q at*
  rw[wrap_i64 (by omega) (by omega)]
@[go_sem high] theorem ANm (a:List UInt8):AL .eql (.str a) (.str a)=some (.bool true):=by rw[s_eql,decide_eq_true rfl]
@[go_sem high] theorem ANn (a:List UInt8):AL .neq (.str a) (.str a)=some (.bool false):=by rw[s_neq];simp
@[go_sem high] theorem ANo (k:IntKind) (a:Int):AL .eql (.int k a) (.int k a)=some (.bool true):=by rw[b_eql,decide_eq_true rfl]
@[go_sem high] theorem ANp (k:IntKind) (a:Int):AL .neq (.int k a) (.int k a)=some (.bool false):=by rw[b_neq];simp
@[go_sem] theorem ANq {a b:List UInt8} (h:a.length+b.length≤4611686018427387904):AL .add (.str a) (.str b)=some (.str (a++b)):=QR a b h
theorem cvI_i64 {k:IntKind} {n:Int} (h1: -9223372036854775808≤n) (h2:n<9223372036854775808):IJ .i64 (.int k n)=some (.int .i64 n):=by rw[IJ,wrap_i64 h1 h2]
theorem cvI_u64 {k:IntKind} {n:Int} (h1:0≤n) (h2:n<18446744073709551616):IJ .u64 (.int k n)=some (.int .u64 n):=by rw[IJ,wrap_u64 h1 h2]
theorem cvI_u8 {k:IntKind} {n:Int} (h1:0≤n) (h2:n<256):IJ .u8 (.int k n)=some (.int .u8 n):=by rw[IJ,wrap_u8 h1 h2]
attribute [go_sem] cvI_i64 cvI_u64 cvI_u8
@[go_sem] theorem ANr (s:List UInt8):cvS (.str s)=some (.str s):=(rfl)
@[go_sem] theorem ANs {s:List UInt8} (h:s.length≤2147483648) (e:TypeId):cvB e (.str s)=some (.lst e .own (bytesOf s)):=if_pos h
theorem Ib:∀s:List UInt8,D5 (bytesOf s)=some s
 |[]=>rfl
 |x::s=>by
  have:bytesOf (x::s)= .int .u8 x.toNat::bytesOf s:=(rfl)
  rw[this]
  simp only[D5,byteOf,Ib s,Int.toNat_natCast,UInt8.ofNat_toNat,Option.bind_some,Option.map_some]
@[go_sem] theorem ANt (h:List V) (e:TypeId) (f:Fl) (s:List UInt8):cvT h (.lst e f (bytesOf s))=some (.str s):=by simp only[cvT,Ad,Option.bind_some,Ib,Option.map_some]
@[go_sem] theorem AMj (s ft:TypeId) (f id:Nat) (p:List Nat):fA s ft f (.ref id p s)=some (.ref id (p++[f]) ft):=by simp[fA]
@[go_sem] theorem AMk (s ft:TypeId) (f:Nat) (u:TypeId) (xs:List V):fA s ft f (.rop s (.agg u xs))=(xs[f]?).map (.rop ft):=by simp[fA]
@[go_sem] theorem AMl (u:TypeId) (f:Nat) (hs:Bool) (xs:List V):fV u f hs (.agg u xs)=(xs[f]?).map (cpB hs):=by simp[fV]
@[go_sem] theorem ANu (v:V):cpB false v=v:=(rfl)
@[go_sem] theorem ANv (v:V):cpB true v=v.weak:=(rfl)
@[go_sem] theorem ANw (v:List V):nlB false v=v:=(rfl)
@[go_sem] theorem ANx (v:List V):nlB true v=AY v:=(rfl)
@[go_sem] theorem AKZ (h:List V) (t:TypeId) (v:V):AZ h t (.rop t v)=some v:=by simp[AZ]
@[go_sem] theorem AKa (h:List V) (t:TypeId) (v:V):DZ h t (.rop t v)=some v.weak:=by simp[DZ,AZ]
@[go_sem] theorem AIT (h:List V) (t:TypeId) (id:Nat):AZ h t (.ref id [] t)=h[id]?:=by
  simp only[AZ,if_true,rd];cases h[id]?<;>rfl
theorem ldS_r0 (h:List V) (t:TypeId) (id:Nat):DZ h t (.ref id [] t)=(h[id]?).map V.weak:=by rw[DZ,AIT]
@[go_sem] theorem AIU (h:List V) (t:TypeId) (id i:Nat):AZ h t (.ref id [i] t)=(h[id]?).bind fun v=>V.at [i] v:=by simp only[AZ,if_true,rd]
@[go_sem] theorem AMm (h:List V) (t:TypeId) (id i:Nat):DZ h t (.ref id [i] t)=((h[id]?).bind fun v=>V.at [i] v).map V.weak:=by rw[DZ,AIU]
@[go_sem] theorem AOr (u i:Nat) (fs:List V):V.at [i] (.agg u fs)=fs[i]?:=by simp only[V.at];cases fs[i]?<;>rfl
@[go_sem] theorem ANy (u i:Nat) (fs:List V):V.at [i] (.row u fs)=fs[i]?:=by simp only[V.at];cases fs[i]?<;>rfl
attribute [go_sem] ldS_r0 List.nil_append List.cons_append List.append_assoc List.length_nil List.length_cons List.length_append List.getElem?_cons_zero List.getElem?_cons_succ Option.map_some List.length_map List.set_cons_zero List.set_cons_succ List.take_zero List.take_succ_cons List.take_nil Nat.zero_add List.length_drop List.length_take List.length_replicate
@[go_sem] theorem AIV (id:Nat) (p:List Nat) (t:TypeId):BJ (.ref id p t)=some (.ref id p t):=(rfl)
@[go_sem] theorem AIW (t:TypeId) (x:V):BJ (.rop t x)=some (.rop t x):=(rfl)
@[go_sem] theorem AIX (f:FuncId) (x:List V):BJ (.clo f x)=some (.clo f x):=(rfl)
@[go_sem] theorem AMn {ty:V→Bool} {h:List V} {id:Nat} {v:V} (hi:id<h.length) (ht:ty v=true) (hu:v.under (id+1)=true) (t:TypeId):FT ty t h (.ref id [] t) v=some (h.set id v):=by
  simp only[FT,if_true,ht,hu,Bool.and_self,wr,List.getElem?_eq_getElem hi,Option.bind_some,V.upd,Option.map_some]
@[go_sem] theorem AKb {ty:V→Bool} {h:List V} {id i:Nat} {v:V} (ht:ty v=true) (hu:v.under (id+1)=true) (t:TypeId):FT ty t h (.ref id [i] t) v=(h[id]?).bind fun r=>(V.upd [i] r v).map fun r'=>h.set id r':=by
  simp only[FT,if_true,ht,hu,Bool.and_self,wr]
@[go_sem] theorem ANz {i:Nat} {fs:List V} (h:i<fs.length) (u:TypeId) (v:V):V.upd [i] (.agg u fs) v=some (.agg u (fs.set i v)):=by
  simp only[V.upd,List.getElem?_eq_getElem h,Option.bind_some,Option.map_some]
@[go_sem] theorem AIY {i:Nat} {fs:List V} (h:i<fs.length) (u:TypeId) (v:V):V.upd [i] (.row u fs) v=some (.row u (fs.set i v)):=by
  simp only[V.upd,List.getElem?_eq_getElem h,Option.bind_some,Option.map_some]
@[go_sem] theorem AN0 (s:List UInt8):lnS (.str s)=some (.int .i64 s.length):=(rfl)
@[go_sem] theorem AN1 (e:TypeId) (f:Fl) (xs:List V):J8 (.lst e f xs)=some (.int .i64 xs.length):=(rfl)
@[go_sem] theorem AN2 (id:Nat) (p:List Nat) (o l e:Nat):J8 (.win id p o l e)=some (.int .i64 l):=(rfl)
@[go_sem] theorem Ov (e:TypeId) (f:Fl) (xs:List V) (k:IntKind) (i:Nat):Gg e (.lst e f xs) (.int k (i:Int))=(xs[i]?).map (.rop e):=by
  simp only[Gg,inside,decide_true,Bool.true_and]
  by_cases h:i<xs.length
  ·simp[h]
  ·have:xs[i]?=none:=List.getElem?_eq_none (by omega)
   simp[h,this]
@[go_sem] theorem AN3 (e:TypeId) (f:Fl) (xs:List V) (k:IntKind):Gg e (.lst e f xs) (.int k 0)=(xs[0]?).map (.rop e):=Ov e f xs k 0
@[go_sem] theorem AN4 (e:TypeId) (f:Fl) (xs:List V) (k:IntKind):Gg e (.lst e f xs) (.int k 1)=(xs[1]?).map (.rop e):=Ov e f xs k 1
@[go_sem] theorem AN5 (e:TypeId) (f:Fl) (xs:List V) (k:IntKind):Gg e (.lst e f xs) (.int k 2)=(xs[2]?).map (.rop e):=Ov e f xs k 2
@[go_sem] theorem AN6 (e:TypeId) (f:Fl) (xs:List V) (k:IntKind):Gg e (.lst e f xs) (.int k 3)=(xs[3]?).map (.rop e):=Ov e f xs k 3
@[go_sem] theorem AKc (s:List UInt8) (k:IntKind) (i:Nat):ixT (.str s) (.int k (i:Int))=(s[i]?).map fun b=> .int .u8 b.toNat:=by
  simp only[ixT,inside]
  by_cases h:i<s.length
  ·simp[h]
  ·have:s[i]?=none:=List.getElem?_eq_none (by omega)
   simp[h,this]
@[go_sem] theorem AN7 (s:List UInt8) (k:IntKind):ixT (.str s) (.int k 0)=(s[0]?).map fun b=> .int .u8 b.toNat:=AKc s k 0
@[go_sem] theorem AN8 {i:Nat} {n:Nat} (h:i<n) (t u e id:Nat) (p:List Nat) (k:IntKind):ixA t u n e (.ref id p t) (.int k (i:Int))=some (.ref id (p++[i]) e):=by simp[ixA,inside,h]
@[go_sem] theorem AIZ {s:List UInt8} {i:Nat} (h:i≤s.length) (k:IntKind):slT (.str s) (some (.int k (i:Int))) none=some (.str (s.drop i)):=by simp[slT,BP,h]
@[go_sem] theorem AMo {s:List UInt8} {j:Nat} (h:j≤s.length) (k:IntKind):slT (.str s) none (some (.int k (j:Int)))=some (.str (s.take j)):=by simp[slT,BP,h]
@[go_sem] theorem AKd {s:List UInt8} {i j:Nat} (h:i≤j) (h2:j≤s.length) (k k':IntKind):slT (.str s) (some (.int k (i:Int))) (some (.int k' (j:Int)))=some (.str ((s.take j).drop i)):=by simp[slT,BP,h,h2]
@[go_sem] theorem AMp {xs:List V} {i:Nat} (h:i≤xs.length) (e:TypeId) (f:Fl) (k:IntKind):slL e (.lst e f xs) (some (.int k (i:Int))) none none=some (.lst e f.cut (xs.drop i)):=by simp[slL,BP,h]
@[go_sem] theorem AMq {xs:List V} {j:Nat} (h:j≤xs.length) (e:TypeId) (f:Fl) (k:IntKind):slL e (.lst e f xs) none (some (.int k (j:Int))) none=some (.lst e f.cut (xs.take j)):=by simp[slL,BP,h]
@[go_sem] theorem AMr {xs:List V} {j:Nat} (h:j≤xs.length) (e:TypeId) (f:Fl) (k k':IntKind):slL e (.lst e f xs) none (some (.int k (j:Int))) (some (.int k' (j:Int)))=some (.lst e f.cut (xs.take j)):=by simp[slL,BP,h]
@[go_sem] theorem AMs:Fl.cut .sh= .sh:=(rfl)
@[go_sem] theorem ALo:Fl.cut .own= .sh:=(rfl)
@[go_sem] theorem ALp:Fl.cut .nil= .nil:=(rfl)
@[go_sem] theorem AN9 (t u n e id:Nat) (p:List Nat):slA t u n e (.ref id p t) none none none=some (.win id p 0 n e):=by simp[slA,BP]
@[go_sem] theorem AOs {α:Type} (x:α):ck [] x=some x:=(rfl)
@[go_sem] theorem AOt {α:Type} {b:Bool} (h:b=true) (bs:List Bool) (x:α):ck (b::bs) x=ck bs x:=by rw[ck,if_pos h]
@[go_sem] theorem AOA {xs:List V} (h:AQ xs=true) (e:TypeId) (hs:Bool):Tq e hs (some xs)=some (.lst e .own (nlB hs xs)):=by simp[Tq,h]
@[go_sem] theorem AGx (h:List V) (e:TypeId) (f:Fl) (xs:List V):Ad h (.lst e f xs)=some xs:=(rfl)
@[go_sem] theorem Jh {h:List V} {g:Fl} {ys:List V} {ty:V→Bool} {xs:List V} (hc:AQ ys=true) (ht:ys.all ty=true) (hl:xs.length+ys.length≤2147483648) (e e':TypeId) (hs:Bool):
 RS e ty hs h (.lst e .own xs) (.lst e' g ys)=some (.lst e .own (xs++nlB hs ys)):=by
  have hy:Ad h (.lst e' g ys)=some ys:=rfl
  simp[RS,hy,hc,ht,DV,hl]
theorem AFX {h:List V} {g:Fl} {ys:List V} {ty:V→Bool} {xs:List V} (hc:AQ ys=true) (ht:ys.all ty=true) (hl:xs.length+ys.length≤2147483648) (hn:ys.isEmpty=false) (e e':TypeId) (hs:Bool):
 RS e ty hs h (.lst e .nil xs) (.lst e' g ys)=some (.lst e .own (xs++nlB hs ys)):=by
 have hy:Ad h (.lst e' g ys)=some ys:=rfl
 simp[RS,hy,hc,ht,DV,hl,hn]
@[go_sem] theorem AB7 {h:List V} {g:Fl} {y:V} {ys:List V} {ty:V→Bool} {xs:List V} (hc:AQ (y::ys)=true) (ht:(y::ys).all ty=true) (hl:xs.length+(y::ys).length≤2147483648) (e e':TypeId) (hs:Bool):
 RS e ty hs h (.lst e .nil xs) (.lst e' g (y::ys))=some (.lst e .own (xs++nlB hs (y::ys))):=AFX hc ht hl rfl e e' hs
@[go_sem] theorem AKe {h:List V} {g:Fl} {ty:V→Bool} (e e':TypeId) (hs:Bool):RS e ty hs h (.lst e .nil []) (.lst e' g [])=some (.lst e .nil []):=by
  cases hs<;>simp[RS,Ad,AQ,DV,nlB,AY]
@[go_sem] theorem ALq (e e':TypeId):IQ .eql (.lst e .nil []) (.lst e' .nil [])=some (.bool true):=(rfl)
@[go_sem] theorem AJS (e e':TypeId) (xs:List V):IQ .eql (.lst e .non xs) (.lst e' .nil [])=some (.bool false):=by cases xs<;>rfl
@[go_sem] theorem ALr (e e':TypeId) (x:V) (xs:List V):IQ .eql (.lst e .sh (x::xs)) (.lst e' .nil [])=some (.bool false):=(rfl)
@[go_sem] theorem AMt:Fl.wk .non= .non:=(rfl)
theorem all_map {α:Type} {c:α→V} {ty:V→Bool} (h:∀a,ty (c a)=true) (l:List α):(l.map c).all ty=true:=by simp[h]
@[go_sem] theorem AKf:AQ []=true:=(rfl)
@[go_sem] theorem AKg (x:V) (xs:List V):AQ (x::xs)=(x.clean&&AQ xs):=(rfl)
@[go_sem] theorem ALs (b:Bool):V.noOwn (.bool b)=true:=(rfl)
@[go_sem] theorem ALt (k:IntKind) (n:Int):V.noOwn (.int k n)=true:=(rfl)
@[go_sem] theorem AKh {v:V} (h:v.pl=true):v.noOwn=true:=(V.PF v h).noOwn
@[go_sem] theorem AMu {ty:V→Bool} {x y:V} {b:Bool} (hx:ty x=true) (hy:ty y=true) (h:JL x y=some b):Xn ty .eql x y=some (.bool b):=by simp[Xn,hx,hy,h]
theorem eqT_bool (a b:Bool):Xn tyB .eql (.bool a) (.bool b)=some (.bool (a==b)):=by simp[Xn,tyB,JL]
theorem eqT_nbool (a b:Bool):Xn tyB .neq (.bool a) (.bool b)=some (.bool (!(a==b))):=by simp[Xn,tyB,JL]
attribute [go_sem] eqT_bool eqT_nbool
@[go_sem] theorem AMv (id id' k:Nat) (t t':TypeId):AD0 (.ref id [] t) k (.ref id' [k] t')=true:=by simp[AD0]
end AM
end
end Go.Proofs.YtoakaehjnbhgmaaGreatDoor
