/-
  Part of the proof of a statement about the given program: an abstract machine over its code, the simulation, its functions' equations, what they compute.
-/
import Derived.Attr
import Derived.Test.YtiegkempfolgcaaGreatDoorMg3
import Derived.Test.YtiegkempfolgcaaGreatDoorMg7
set_option linter.unusedVariables false
set_option linter.unusedSimpArgs false
set_option linter.unusedSectionVars false
noncomputable section
namespace Go.Proofs.YtiegkempfolgcaaGreatDoor
section
namespace AM
open Go
@[congr] theorem ARi {A B:Type} {x y:Option A} (h:x=y) (K:A→Option B):x.bind K=y.bind K:=by rw[h]
@[congr] theorem ASg {B:Type} {x y:V} (h:x=y) (a b:Option B):V.ite x a b=V.ite y a b:=by rw[h]
attribute [go_sem] Option.bind_some
@[go_sem] theorem Aj {B:Type} (a b:Option B):V.ite (.bool true) a b=a:=(rfl)
@[go_sem] theorem Ak {B:Type} (a b:Option B):V.ite (.bool false) a b=b:=(rfl)
@[go_sem] theorem APa {B:Type} {p:Bool} (h:p=true) (a b:Option B):V.ite (.bool p) a b=a:=by rw[h];rfl
@[go_sem] theorem AQf {B:Type} {p:Bool} (h:¬p=true) (a b:Option B):V.ite (.bool p) a b=b:=by cases p<;>first|rfl|exact absurd rfl h
@[go_sem] theorem AX {B:Type} {p:Prop} [Decidable p] (h:p) (a b:Option B):V.ite (.bool (decide p)) a b=a:=by rw[decide_eq_true h];rfl
@[go_sem] theorem AQ {B:Type} {p:Prop} [Decidable p] (h:¬p) (a b:Option B):V.ite (.bool (decide p)) a b=b:=by rw[decide_eq_false h];rfl
@[go_sem] theorem APb {B:Type} (p:Bool) (a b:Option B):V.ite (.bool (!p)) a b=V.ite (.bool p) b a:=by cases p<;>rfl
theorem AA {α β:Type} (k:α) (f:α→β):jn k f=f k:=(rfl)
mutual
def V.pl:V→Bool
 | .bool _=>true
 | .int _ _=>true
 | .str _=>true
 | .nilp=>true
 | .nilf=>true
 | .nili=>true
 | .ifv=>true
 | .agg _ fs=>Gj fs
 | .lst _ .sh xs=>Gj xs
 |_=>false
 termination_by structural x=>x
def Gj:List V→Bool
 |[]=>true
 |x::xs=>x.pl&&Gj xs
 termination_by structural x=>x
end
@[go_sem] theorem pl_bool (b:Bool):V.pl (.bool b)=true:=(rfl)
@[go_sem] theorem pl_int (k:IntKind) (n:Int):V.pl (.int k n)=true:=(rfl)
@[go_sem] theorem AQg (s:List UInt8):V.pl (.str s)=true:=(rfl)
@[go_sem] theorem APc:V.pl .nilp=true:=(rfl)
@[go_sem] theorem APd:V.pl .nili=true:=(rfl)
@[go_sem] theorem AQh (u:TypeId) (fs:List V):V.pl (.agg u fs)=Gj fs:=(rfl)
@[go_sem] theorem AQi (e:TypeId) (xs:List V):V.pl (.lst e .sh xs)=Gj xs:=(rfl)
@[go_sem] theorem APe:Gj []=true:=(rfl)
@[go_sem] theorem AFb (x:V) (xs:List V):Gj (x::xs)=(x.pl&&Gj xs):=(rfl)
theorem AIM (xs:List V):Gj xs=xs.all V.pl:=by
 induction xs with
 |nil=>rfl
 |cons x xs ih=>simp only[Gj,List.all_cons,ih]
theorem Dk {α:Type} {c:α→V} (h:∀a,(c a).pl=true) (l:List α):Gj (l.map c)=true:=by
 rw[AIM];simp[h]
theorem SL (l:List UInt8):Gj (bytesOf l)=true:=Dk (fun _=>rfl) l
structure PF (v:V):Prop where
 weak:v.weak=v
 norm:v.norm=v
 clean:v.clean=true
 reify:∀h,v.reify h=v
 unmut:∀h,v.unmut h=v
 under:∀n,v.under n=true
 over:∀n,v.over n=true
 away:∀n,v.away n=true
 noOwn:v.noOwn=true
structure PFL (v:List V):Prop where
 weak:Eu v=v
 norm:AP v=v
 clean:AY v=true
 reify:∀h,AL h v=v
 unmut:∀h,CY h v=v
 under:∀n,Ae n v=true
 over:∀n,DU n v=true
 away:∀n,BZ n v=true
 noOwn:BI v=true
mutual
theorem V.PF:∀v:V,v.pl=true→PF v
 | .bool _,_=>⟨rfl,rfl,rfl,fun _=>rfl,fun _=>rfl,fun _=>rfl,fun _=>rfl,fun _=>rfl,rfl⟩
 | .int _ _,_=>⟨rfl,rfl,rfl,fun _=>rfl,fun _=>rfl,fun _=>rfl,fun _=>rfl,fun _=>rfl,rfl⟩
 | .str _,_=>⟨rfl,rfl,rfl,fun _=>rfl,fun _=>rfl,fun _=>rfl,fun _=>rfl,fun _=>rfl,rfl⟩
 | .nilp,_=>⟨rfl,rfl,rfl,fun _=>rfl,fun _=>rfl,fun _=>rfl,fun _=>rfl,fun _=>rfl,rfl⟩
 | .nilf,_=>⟨rfl,rfl,rfl,fun _=>rfl,fun _=>rfl,fun _=>rfl,fun _=>rfl,fun _=>rfl,rfl⟩
 | .nili,_=>⟨rfl,rfl,rfl,fun _=>rfl,fun _=>rfl,fun _=>rfl,fun _=>rfl,fun _=>rfl,rfl⟩
 | .ifv,_=>⟨rfl,rfl,rfl,fun _=>rfl,fun _=>rfl,fun _=>rfl,fun _=>rfl,fun _=>rfl,rfl⟩
 | .agg u fs,h=>by
   have p:=V.PFL fs h
   exact⟨by simp only[V.weak,p.weak],by simp only[V.norm,p.norm],by simp only[V.clean,p.clean],fun h=>by simp only[V.reify,p.reify],fun h=>by simp only[V.unmut,p.unmut],fun n=>by simp only[V.under,p.under],fun n=>by simp only[V.over,p.over],fun n=>by simp only[V.away,p.away],by simp only[V.noOwn,p.noOwn]⟩
 | .lst e .sh xs,h=>⟨rfl,rfl,rfl,fun _=>rfl,fun _=>rfl,fun _=>rfl,fun _=>rfl,fun _=>rfl,rfl⟩
 | .lst _ .own _,h=>by cases h
 | .lst _ .nil _,h=>by cases h
 | .lst _ .lent _,h=>by cases h
 | .row _ _,h=>by cases h
 | .win _ _ _ _ _,h=>by cases h
 | .ref _ _ _,h=>by cases h
 | .rop _ _,h=>by cases h
 | .clo _ _,h=>by cases h
 | .tup _,h=>by cases h
 | .undef,h=>by cases h
theorem V.PFL:∀v:List V,Gj v=true→PFL v
 |[],_=>⟨rfl,rfl,rfl,fun _=>rfl,fun _=>rfl,fun _=>rfl,fun _=>rfl,fun _=>rfl,rfl⟩
 |x::xs,h=>by
  simp only[Gj,Bool.and_eq_true]at h
  have p:=V.PF x h.1;have q:=V.PFL xs h.2
  exact⟨by simp only[Eu,p.weak,q.weak],by simp only[AP,p.norm,q.norm],by simp only[AY,p.clean,q.clean,Bool.and_self],fun h=>by simp only[AL,p.reify,q.reify],fun h=>by simp only[CY,p.unmut,q.unmut],
   fun n=>by simp only[Ae,p.under,q.under,Bool.and_self],fun n=>by simp only[DU,p.over,q.over,Bool.and_self],fun n=>by simp only[BZ,p.away,q.away,Bool.and_self],by simp only[BI,p.noOwn,q.noOwn,Bool.and_self]⟩
end
@[go_sem] theorem APf {v:V} (h:v.pl=true):v.weak=v:=(V.PF v h).weak
@[go_sem] theorem APg {v:V} (h:v.pl=true):v.norm=v:=(V.PF v h).norm
@[go_sem] theorem AOA {v:V} (h:v.pl=true):v.clean=true:=(V.PF v h).clean
@[go_sem] theorem AOB {v:V} (h:v.pl=true) (hp:List V):v.reify hp=v:=(V.PF v h).reify hp
@[go_sem] theorem AOC {v:V} (h:v.pl=true) (hp:List V):v.unmut hp=v:=(V.PF v h).unmut hp
@[go_sem] theorem AOD {v:V} (h:v.pl=true) (n:Nat):v.under n=true:=(V.PF v h).under n
@[go_sem] theorem APh {v:V} (h:v.pl=true) (n:Nat):v.over n=true:=(V.PF v h).over n
@[go_sem] theorem ACK {v:List V} (h:Gj v=true):AY v=true:=(V.PFL v h).clean
@[go_sem] theorem AFc {v:List V} (h:Gj v=true):AP v=v:=(V.PFL v h).norm
@[go_sem] theorem AM9 {v:List V} (h:Gj v=true) (hp:List V):AL hp v=v:=(V.PFL v h).reify hp
def Fl.wk:Fl→Fl| .own=> .sh|f=>f
def Fl.rf:Fl→Fl| .lent=> .lent|_=> .sh
@[go_sem] theorem ARj:Fl.wk .sh= .sh:=(rfl)
@[go_sem] theorem EN:Fl.wk .own= .sh:=(rfl)
@[go_sem] theorem EO:Fl.wk .nil= .nil:=(rfl)
@[go_sem] theorem ARk (f:Fl):f.wk.wk=f.wk:=by cases f<;>rfl
@[go_sem] theorem ARl (f:Fl):f.wk.rf=f.rf:=by cases f<;>rfl
@[go_sem] theorem ARm (f:Fl):f.rf.rf=f.rf:=by cases f<;>rfl
@[go_sem] theorem ARn (f:Fl):f.rf.wk=f.rf:=by cases f<;>rfl
@[go_sem] theorem ARo:Fl.rf .sh= .sh:=(rfl)
@[go_sem] theorem AQj:Fl.rf .own= .sh:=(rfl)
@[go_sem] theorem AQk:Fl.rf .nil= .sh:=(rfl)
@[go_sem] theorem APi:Fl.rf .lent= .lent:=(rfl)
@[go_sem] theorem ACM (e:TypeId) (f:Fl) (xs:List V):V.weak (.lst e f xs)= .lst e f.wk xs:=by cases f<;>rfl
@[go_sem] theorem ANA {xs:List V} (h:Gj xs=true) (hp:List V) (e:TypeId) (f:Fl):V.reify hp (.lst e f xs)= .lst e f.rf xs:=by
  cases f<;>simp only[V.reify,Fl.rf,(V.PFL xs h).reify]
@[go_sem] theorem AOE (e:TypeId) (f:Fl) (xs:List V):V.norm (.lst e f xs)= .lst e f.rf xs:=by cases f<;>rfl
@[go_sem] theorem AOF (h:List V) (x:V) (xs:List V):AL h (x::xs)=x.reify h::AL h xs:=(rfl)
@[go_sem] theorem AOG (h:List V):AL h []=[]:=(rfl)
@[go_sem] theorem APj (x:V) (xs:List V):AP (x::xs)=x.norm::AP xs:=(rfl)
@[go_sem] theorem APk:AP []=[]:=(rfl)
@[go_sem] theorem AOH (id:Nat) (p:List Nat) (t:TypeId):V.norm (.ref id p t)= .ref id p t:=(rfl)
@[go_sem] theorem AOI (id:Nat) (p:List Nat) (o l e:Nat):V.norm (.win id p o l e)= .win id p o l e:=(rfl)
@[go_sem] theorem AOJ (t:TypeId) (v:V):V.norm (.rop t v)= .rop t v:=(rfl)
@[go_sem] theorem AOK (f:FuncId) (cs:List V):V.norm (.clo f cs)= .clo f cs:=(rfl)
@[go_sem] theorem ANB (h:List V) (f:FuncId) (cs:List V):V.reify h (.clo f cs)= .clo f (AL h cs):=(rfl)
@[go_sem] theorem ANC (h:List V) (u:TypeId) (fs:List V):V.reify h (.agg u fs)= .agg u (AL h fs):=(rfl)
@[go_sem] theorem AOL (u:TypeId) (fs:List V):V.weak (.agg u fs)= .agg u (Eu fs):=(rfl)
@[go_sem] theorem APl (x:V) (xs:List V):Eu (x::xs)=x.weak::Eu xs:=(rfl)
@[go_sem] theorem APm:Eu []=[]:=(rfl)
@[go_sem] theorem ANE (n:Nat) (u:TypeId) (fs:List V):V.under n (.agg u fs)=Ae n fs:=(rfl)
@[go_sem] theorem AOM (n:Nat) (x:V) (xs:List V):Ae n (x::xs)=(x.under n&&Ae n xs):=(rfl)
@[go_sem] theorem AON (n:Nat):Ae n []=true:=(rfl)
@[go_sem] theorem ANF {f:Fl} (hf:f≠ .lent) (n:Nat) (e:TypeId) (xs:List V):V.under n (.lst e f xs)=true:=by cases f<;>first|rfl|exact absurd rfl hf
@[go_sem] theorem ANG (n:Nat) (e:TypeId) (xs:List V):V.under n (.lst e .own xs)=true:=(rfl)
@[go_sem] theorem ANH (n:Nat) (e:TypeId) (xs:List V):V.under n (.lst e .nil xs)=true:=(rfl)
@[go_sem] theorem AOO (n:Nat) (e:TypeId) (xs:List V):V.under n (.lst e .sh xs)=true:=(rfl)
@[go_sem] theorem SN {id n:Nat} (h:id<n) (p:List Nat) (t:TypeId):V.under n (.ref id p t)=true:=by simp[V.under,h]
@[go_sem] theorem ANI {id n:Nat} (h:id<n) (p:List Nat) (o l e:Nat):V.under n (.win id p o l e)=true:=by simp[V.under,h]
theorem c0:((0:Nat):Int)=0:=(rfl)
theorem c1:((1:Nat):Int)=1:=(rfl)
@[go_sem] theorem ANJ (n:Nat) (f:FuncId) (xs:List V):V.under n (.clo f xs)=Ae n xs:=(rfl)
@[go_sem] theorem ANK (e:TypeId) (xs:List V):V.clean (.lst e .own xs)=true:=(rfl)
@[go_sem] theorem clean_nil (e:TypeId) (xs:List V):V.clean (.lst e .nil xs)=true:=(rfl)
attribute [go_sem] Bool.and_self Bool.and_true Bool.true_and if_true
@[go_sem] theorem all_nil (ty:V→Bool):List.all [] ty=true:=(rfl)
@[go_sem] theorem all_cons (ty:V→Bool) (x:V) (xs:List V):List.all (x::xs) ty=(ty x&&List.all xs ty):=(rfl)
@[go_sem] theorem APn {v:V} (h:v.pl=true) (n:Nat) (hp:List V):AV n hp v=some (v,hp.take n):=by
  have p:=V.PF v h
  simp only[AV,p.unmut,p.norm,p.clean,p.over,Bool.and_self,if_true]
@[go_sem] theorem AOP (n:Nat) (hp:List V) (e:TypeId) (xs:List V):AV n hp (.lst e .own xs)=some (.lst e .sh xs,hp.take n):=(rfl)
@[go_sem] theorem AOQ (n:Nat) (hp:List V) (e:TypeId) (xs:List V):AV n hp (.lst e .nil xs)=some (.lst e .sh xs,hp.take n):=(rfl)
@[go_sem] theorem APo (n:Nat) (hp:List V) (e:TypeId) (xs:List V):AV n hp (.lst e .sh xs)=some (.lst e .sh xs,hp.take n):=(rfl)
mutual
def V.fok:V→Bool
 | .bool _=>true
 | .int _ _=>true
 | .str _=>true
 | .nilp=>true
 | .nilf=>true
 | .nili=>true
 | .ifv=>true
 | .agg _ fs=>Pn fs
 | .lst _ .own _=>true
 | .lst _ .nil _=>true
 | .lst _ .sh _=>true
 |_=>false
 termination_by structural x=>x
def Pn:List V→Bool
 |[]=>true
 |x::xs=>x.fok&&Pn xs
 termination_by structural x=>x
end
@[go_sem] theorem APp (u:TypeId) (fs:List V):V.fok (.agg u fs)=Pn fs:=(rfl)
@[go_sem] theorem AQl:Pn []=true:=(rfl)
@[go_sem] theorem AQm (x:V) (xs:List V):Pn (x::xs)=(x.fok&&Pn xs):=(rfl)
@[go_sem] theorem APq (e:TypeId) (xs:List V):V.fok (.lst e .own xs)=true:=(rfl)
@[go_sem] theorem APr (e:TypeId) (xs:List V):V.fok (.lst e .nil xs)=true:=(rfl)
@[go_sem] theorem AQn (e:TypeId) (xs:List V):V.fok (.lst e .sh xs)=true:=(rfl)
@[go_sem] theorem AOR (u:TypeId) (fs:List V):V.norm (.agg u fs)= .agg u (AP fs):=(rfl)
mutual
theorem V.fok_pl':∀v:V,v.pl=true→v.fok=true
 | .bool _,_=>rfl
 | .int _ _,_=>rfl
 | .str _,_=>rfl
 | .nilp,_=>rfl
 | .nilf,_=>rfl
 | .nili,_=>rfl
 | .ifv,_=>rfl
 | .agg _ fs,h=>Wv fs h
 | .lst _ .sh _,_=>rfl
 | .lst _ .own _,h=>by cases h
 | .lst _ .nil _,h=>by cases h
 | .lst _ .lent _,h=>by cases h
 | .row _ _,h=>by cases h
 | .win _ _ _ _ _,h=>by cases h
 | .ref _ _ _,h=>by cases h
 | .rop _ _,h=>by cases h
 | .clo _ _,h=>by cases h
 | .tup _,h=>by cases h
 | .undef,h=>by cases h
theorem Wv:∀v:List V,Gj v=true→Pn v=true
 |[],_=>rfl
 |x::xs,h=>by
  simp only[Gj,Bool.and_eq_true]at h
  simp only[Pn,V.fok_pl' x h.1,Wv xs h.2,Bool.and_self]
end
@[go_sem] theorem AQo {v:V} (h:v.pl=true):v.fok=true:=V.fok_pl' v h
mutual
theorem V.fok_all:∀v:V,v.fok=true→(∀hp,v.unmut hp=v)∧v.norm.clean=true∧(∀n,v.norm.over n=true)∧v.okE=true
 | .bool _,_=>⟨fun _=>rfl,rfl,fun _=>rfl,rfl⟩
 | .int _ _,_=>⟨fun _=>rfl,rfl,fun _=>rfl,rfl⟩
 | .str _,_=>⟨fun _=>rfl,rfl,fun _=>rfl,rfl⟩
 | .nilp,_=>⟨fun _=>rfl,rfl,fun _=>rfl,rfl⟩
 | .nilf,_=>⟨fun _=>rfl,rfl,fun _=>rfl,rfl⟩
 | .nili,_=>⟨fun _=>rfl,rfl,fun _=>rfl,rfl⟩
 | .ifv,_=>⟨fun _=>rfl,rfl,fun _=>rfl,rfl⟩
 | .agg u fs,h=>by
   obtain⟨a,b,c⟩:=Po fs h
   exact⟨fun hp=>by simp only[V.unmut,a],by simp only[V.norm,V.clean,b],fun n=>by simp only[V.norm,V.over,c],rfl⟩
 | .lst _ .own _,_=>⟨fun _=>rfl,rfl,fun _=>rfl,rfl⟩
 | .lst _ .nil _,_=>⟨fun _=>rfl,rfl,fun _=>rfl,rfl⟩
 | .lst _ .sh _,_=>⟨fun _=>rfl,rfl,fun _=>rfl,rfl⟩
 | .lst _ .lent _,h=>by cases h
 | .row _ _,h=>by cases h
 | .win _ _ _ _ _,h=>by cases h
 | .ref _ _ _,h=>by cases h
 | .rop _ _,h=>by cases h
 | .clo _ _,h=>by cases h
 | .tup _,h=>by cases h
 | .undef,h=>by cases h
theorem Po:∀v:List V,Pn v=true→(∀hp,CY hp v=v)∧AY (AP v)=true∧(∀n,DU n (AP v)=true)
 |[],_=>⟨fun _=>rfl,rfl,fun _=>rfl⟩
 |x::xs,h=>by
  simp only[Pn,Bool.and_eq_true]at h
  obtain⟨a,b,c,_⟩:=V.fok_all x h.1;obtain⟨a',b',c'⟩:=Po xs h.2
  exact⟨fun hp=>by simp only[CY,a,a'],by simp only[AP,AY,b,b',Bool.and_self],fun n=>by simp only[AP,DU,c,c',Bool.and_self]⟩
end
mutual
theorem V.over_norm:∀(v:V) (n:Nat),v.norm.over n=v.over n
 | .agg u fs,n=>by simp only[V.norm,V.over,FZ]
 | .row u fs,n=>by simp only[V.norm,V.over,FZ]
 | .tup fs,n=>by simp only[V.norm,V.over,FZ]
 | .lst _ f _,n=>by cases f<;>rfl
 | .bool _,_=>rfl
 | .int _ _,_=>rfl
 | .str _,_=>rfl
 | .nilp,_=>rfl
 | .nilf,_=>rfl
 | .nili,_=>rfl
 | .ifv,_=>rfl
 | .win _ _ _ _ _,_=>rfl
 | .ref _ _ _,_=>rfl
 | .rop _ _,_=>rfl
 | .clo _ _,_=>rfl
 | .undef,_=>rfl
theorem FZ:∀(v:List V) (n:Nat),DU n (AP v)=DU n v
 |[],_=>rfl
 |x::xs,n=>by simp only[AP,DU,V.over_norm x n,FZ xs n]
end
@[go_sem] theorem AOS {u:TypeId} {fs:List V} (h:Pn fs=true) (n:Nat) (hp:List V):AV n hp (.agg u fs)=some (.agg u (AP fs),hp.take n):=by
  obtain⟨a,b,c⟩:=Po fs h
  have ov:∀n,DU n fs=true:=fun n=>by rw[←FZ];exact c n
  simp only[AV,V.unmut,a,V.norm,V.clean,b,V.over,ov,Bool.and_self,if_true]
@[go_sem] theorem APs {a:V} (ha:a.fok=true) (n:Nat) (hp:List V):AV n hp (V.tup [a])=some (.tup [a.norm],hp.take n):=by
  obtain⟨a1,a3,a4,a5⟩:=V.fok_all a ha
  simp only[V.over_norm]at a4
  simp only[AV,V.unmut,CY,a1,V.norm,AP,V.clean,AY,a3,V.over,DU,a4,Bool.and_self,if_true]
@[go_sem] theorem AQp {a b:V} (ha:a.fok=true) (hb:b.fok=true) (n:Nat) (hp:List V):AV n hp (V.tup [a,b])=some (.tup [a.norm,b.norm],hp.take n):=by
  obtain⟨a1,a3,a4,a5⟩:=V.fok_all a ha;obtain⟨b1,b3,b4,b5⟩:=V.fok_all b hb
  simp only[V.over_norm]at a4 b4
  simp only[AV,V.unmut,CY,a1,b1,V.norm,AP,V.clean,AY,a3,b3,V.over,DU,a4,b4,Bool.and_self,if_true]
@[go_sem] theorem AQq {a b c:V} (ha:a.fok=true) (hb:b.fok=true) (hc:c.fok=true) (n:Nat) (hp:List V):AV n hp (V.tup [a,b,c])=some (.tup [a.norm,b.norm,c.norm],hp.take n):=by
  obtain⟨a1,a3,a4,a5⟩:=V.fok_all a ha;obtain⟨b1,b3,b4,b5⟩:=V.fok_all b hb;obtain⟨c1,c3,c4,c5⟩:=V.fok_all c hc
  simp only[V.over_norm]at a4 b4 c4
  simp only[AV,V.unmut,CY,a1,b1,c1,V.norm,AP,V.clean,AY,a3,b3,c3,V.over,DU,a4,b4,c4,Bool.and_self,if_true]
@[go_sem] theorem AQr (n:Nat) (hp:List V):AV n hp (V.tup [])=some (.tup [],hp.take n):=(rfl)
@[go_sem] theorem APt {v:V} (h:v.fok=true):v.okE=true:=(V.fok_all v h).2.2.2
@[go_sem] theorem AOT (n:Nat) (hp:List V) (e:TypeId) (xs:List V):NT n hp (.lst e .own xs)=some (.lst e .own xs,hp.take n):=(rfl)
@[go_sem] theorem AOU (n:Nat) (hp:List V) (e:TypeId) (xs:List V):NT n hp (.lst e .nil xs)=some (.lst e .nil xs,hp.take n):=(rfl)
@[go_sem] theorem ARp (a:V) (l:List V):ext (.tup (a::l)) 0=some a:=(rfl)
@[go_sem] theorem ARq (a b:V) (l:List V):ext (.tup (a::b::l)) 1=some b:=(rfl)
@[go_sem] theorem ARr (a b c:V) (l:List V):ext (.tup (a::b::c::l)) 2=some c:=(rfl)
@[go_sem] theorem ARs (a b c d:V) (l:List V):ext (.tup (a::b::c::d::l)) 3=some d:=(rfl)
@[go_sem] theorem AQs (a:V) (l:List V):FQ (.tup (a::l)) 0=some a.weak:=(rfl)
@[go_sem] theorem AQt (a b:V) (l:List V):FQ (.tup (a::b::l)) 1=some b.weak:=(rfl)
@[go_sem] theorem AQu (a b c:V) (l:List V):FQ (.tup (a::b::c::l)) 2=some c.weak:=(rfl)
@[go_sem] theorem ARt (b:Bool):tyB (.bool b)=true:=(rfl)
@[go_sem] theorem ARu (k:IntKind) (n:Int):NZ k (.int k n)=true:=by simp[NZ]
@[go_sem] theorem ARv (s:List UInt8):tyS (.str s)=true:=(rfl)
@[go_sem] theorem Hu (u:TypeId) (fs:List V):BK u (.agg u fs)=true:=by simp[BK]
@[go_sem] theorem ARw (e:TypeId) (f:Fl) (xs:List V):JS e (.lst e f xs)=true:=by simp[JS]
@[go_sem] theorem ARx (id:Nat) (p:List Nat) (t:TypeId):tyP (.ref id p t)=true:=(rfl)
@[go_sem] theorem ARy (f:FuncId) (cs:List V):tyF (.clo f cs)=true:=(rfl)
attribute [go_sem] b_lss b_leq b_gtr b_geq b_eql b_neq s_eql s_neq
@[go_sem] theorem AQv (b:Bool):un .not (.bool b)=some (.bool (!b)):=(rfl)
@[go_sem high] theorem add1 {a:Nat} (h:a+1<4611686018427387904):AO .add (.int .i64 (a:Int)) (.int .i64 1)=some (.int .i64 ((a+1:Nat):Int)):=by
  rw[DR,wrap_i64 (by omega) (by omega)];congr 2
@[go_sem high] theorem addN {a b:Nat} (h:a+b<4611686018427387904):AO .add (.int .i64 (a:Int)) (.int .i64 (b:Int))=some (.int .i64 ((a+b:Nat):Int)):=by
  rw[DR,wrap_i64 (by omega) (by omega)];congr 2
@[go_sem high] theorem ASh {a:Nat} (h:1≤a) (h2:a<4611686018427387904):AO .sub (.int .i64 (a:Int)) (.int .i64 1)=some (.int .i64 ((a-1:Nat):Int)):=by
  rw[PW,wrap_i64 (by omega) (by omega)];congr 2;omega
@[go_sem high] theorem AOV {a b:Nat} (h:b≤a) (h2:a<4611686018427387904):AO .sub (.int .i64 (a:Int)) (.int .i64 (b:Int))=some (.int .i64 ((a-b:Nat):Int)):=by
  rw[PW,wrap_i64 (by omega) (by omega)];congr 2;omega
@[go_sem high] theorem ARz {a:Nat} (h:a+1<18446744073709551616):AO .add (.int .u64 (a:Int)) (.int .u64 1)=some (.int .u64 ((a+1:Nat):Int)):=by
  rw[DR,wrap_u64 (by omega) (by omega)];congr 2
@[go_sem] theorem AR0 {a b:Int} (h1: -9223372036854775808≤a+b) (h2:a+b<9223372036854775808):AO .add (.int .i64 a) (.int .i64 b)=some (.int .i64 (a+b)):=by rw[DR,wrap_i64 h1 h2]
@[go_sem] theorem AR1 {a b:Int} (h1: -9223372036854775808≤a-b) (h2:a-b<9223372036854775808):AO .sub (.int .i64 a) (.int .i64 b)=some (.int .i64 (a-b)):=by rw[PW,wrap_i64 h1 h2]
@[go_sem] theorem AOW {a b:Int} (h1: -9223372036854775808≤a*b) (h2:a*b<9223372036854775808):AO .mul (.int .i64 a) (.int .i64 b)=some (.int .i64 (a*b)):=by rw[Rw,wrap_i64 h1 h2]
theorem SQ (a b:Nat):(a:Int).tdiv b=((a/b:Nat):Int)∧(a:Int).tmod b=((a%b:Nat):Int):=⟨rfl,rfl⟩
@[go_sem] theorem ALu {a b:Nat} (h:0<b) (k:IntKind):AO .rem (.int k (a:Int)) (.int k (b:Int))=some (.int k ((a%b:Nat):Int)):=by
  rw[WY _ _ _ (by omega),(SQ a b).2]
@[go_sem] theorem ASi {a:Nat} (h2:a<9223372036854775808):AO .quo (.int .i64 (a:Int)) (.int .i64 2)=some (.int .i64 ((a/2:Nat):Int)):=by
  rw[AFC _ _ _ (by omega),show(a:Int).tdiv 2=((a/2:Nat):Int)from rfl,wrap_i64 (by omega) (by omega)]
@[go_sem] theorem ASj {a b:Nat} (h:0<b) (h2:a<9223372036854775808):AO .quo (.int .i64 (a:Int)) (.int .i64 (b:Int))=some (.int .i64 ((a/b:Nat):Int)):=by
  have:=Nat.div_le_self a b
  rw[AFC _ _ _ (by omega),(SQ a b).1]
  generalize a/b=q at*
  rw[wrap_i64 (by omega) (by omega)]
@[go_sem high] theorem AR2 (a:List UInt8):AO .eql (.str a) (.str a)=some (.bool true):=by rw[s_eql,decide_eq_true rfl]
@[go_sem high] theorem AR3 (a:List UInt8):AO .neq (.str a) (.str a)=some (.bool false):=by rw[s_neq];simp
@[go_sem high] theorem AR4 (k:IntKind) (a:Int):AO .eql (.int k a) (.int k a)=some (.bool true):=by rw[b_eql,decide_eq_true rfl]
@[go_sem high] theorem AR5 (k:IntKind) (a:Int):AO .neq (.int k a) (.int k a)=some (.bool false):=by rw[b_neq];simp
@[go_sem] theorem AR6 {a b:List UInt8} (h:a.length+b.length≤4611686018427387904):AO .add (.str a) (.str b)=some (.str (a++b)):=ANo a b h
theorem cvI_i64 {k:IntKind} {n:Int} (h1: -9223372036854775808≤n) (h2:n<9223372036854775808):OW .i64 (.int k n)=some (.int .i64 n):=by rw[OW,wrap_i64 h1 h2]
theorem cvI_u64 {k:IntKind} {n:Int} (h1:0≤n) (h2:n<18446744073709551616):OW .u64 (.int k n)=some (.int .u64 n):=by rw[OW,wrap_u64 h1 h2]
theorem cvI_u8 {k:IntKind} {n:Int} (h1:0≤n) (h2:n<256):OW .u8 (.int k n)=some (.int .u8 n):=by rw[OW,wrap_u8 h1 h2]
attribute [go_sem] cvI_i64 cvI_u64 cvI_u8
@[go_sem] theorem AR7 (s:List UInt8):cvS (.str s)=some (.str s):=(rfl)
@[go_sem] theorem AR8 {s:List UInt8} (h:s.length≤2147483648) (e:TypeId):cvB e (.str s)=some (.lst e .own (bytesOf s)):=if_pos h
theorem JZ:∀s:List UInt8,Eb (bytesOf s)=some s
 |[]=>rfl
 |x::s=>by
  have:bytesOf (x::s)= .int .u8 x.toNat::bytesOf s:=(rfl)
  rw[this]
  simp only[Eb,byteOf,JZ s,Int.toNat_natCast,UInt8.ofNat_toNat,Option.bind_some,Option.map_some]
@[go_sem] theorem AR9 (h:List V) (e:TypeId) (f:Fl) (s:List UInt8):cvT h (.lst e f (bytesOf s))=some (.str s):=by simp only[cvT,Ah,Option.bind_some,JZ,Option.map_some]
@[go_sem] theorem AQw (s ft:TypeId) (f id:Nat) (p:List Nat):fA s ft f (.ref id p s)=some (.ref id (p++[f]) ft):=by simp[fA]
@[go_sem] theorem AQx (s ft:TypeId) (f:Nat) (u:TypeId) (xs:List V):fA s ft f (.rop s (.agg u xs))=(xs[f]?).map (.rop ft):=by simp[fA]
@[go_sem] theorem AQy (u:TypeId) (f:Nat) (hs:Bool) (xs:List V):fV u f hs (.agg u xs)=(xs[f]?).map (cpB hs):=by simp[fV]
@[go_sem] theorem ASA (v:V):cpB false v=v:=(rfl)
@[go_sem] theorem ASB (v:V):cpB true v=v.weak:=(rfl)
@[go_sem] theorem AJ3 (v:List V):nlB false v=v:=(rfl)
@[go_sem] theorem ASC (v:List V):nlB true v=AP v:=(rfl)
@[go_sem] theorem AOX (h:List V) (t:TypeId) (v:V):Aa h t (.rop t v)=some v:=by simp[Aa]
@[go_sem] theorem AOY (h:List V) (t:TypeId) (v:V):BA h t (.rop t v)=some v.weak:=by simp[BA,Aa]
@[go_sem] theorem ALv (h:List V) (t:TypeId) (id:Nat):Aa h t (.ref id [] t)=h[id]?:=by
  simp only[Aa,if_true,rd];cases h[id]?<;>rfl
theorem ldS_r0 (h:List V) (t:TypeId) (id:Nat):BA h t (.ref id [] t)=(h[id]?).map V.weak:=by rw[BA,ALv]
@[go_sem] theorem ALw (h:List V) (t:TypeId) (id i:Nat):Aa h t (.ref id [i] t)=(h[id]?).bind fun v=>V.at [i] v:=by simp only[Aa,if_true,rd]
@[go_sem] theorem AQz (h:List V) (t:TypeId) (id i:Nat):BA h t (.ref id [i] t)=((h[id]?).bind fun v=>V.at [i] v).map V.weak:=by rw[BA,ALw]
@[go_sem] theorem ASk (u i:Nat) (fs:List V):V.at [i] (.agg u fs)=fs[i]?:=by simp only[V.at];cases fs[i]?<;>rfl
@[go_sem] theorem ASD (u i:Nat) (fs:List V):V.at [i] (.row u fs)=fs[i]?:=by simp only[V.at];cases fs[i]?<;>rfl
attribute [go_sem] ldS_r0 List.nil_append List.cons_append List.append_assoc List.length_nil List.length_cons List.length_append List.getElem?_cons_zero List.getElem?_cons_succ Option.map_some List.length_map List.set_cons_zero List.set_cons_succ List.take_zero List.take_succ_cons List.take_nil Nat.zero_add List.length_drop List.length_take List.length_replicate
@[go_sem] theorem ALx (id:Nat) (p:List Nat) (t:TypeId):Bj (.ref id p t)=some (.ref id p t):=(rfl)
@[go_sem] theorem ALy (t:TypeId) (x:V):Bj (.rop t x)=some (.rop t x):=(rfl)
@[go_sem] theorem ALz (f:FuncId) (x:List V):Bj (.clo f x)=some (.clo f x):=(rfl)
@[go_sem] theorem AL0 {ty:V→Bool} {h:List V} {id:Nat} {v:V} (hi:id<h.length) (ht:ty v=true) (hu:v.under (id+1)=true) (t:TypeId):Cc ty t h (.ref id [] t) v=some (h.set id v):=by
  simp only[Cc,if_true,ht,hu,Bool.and_self,wr,List.getElem?_eq_getElem hi,Option.bind_some,V.upd,Option.map_some]
theorem AL1 {ty:V→Bool} {h:List V} {id i:Nat} {u:TypeId} {fs:List V} {v:V} (hh:h[id]?=some (.agg u fs)) (hi:i<fs.length) (ht:ty v=true) (hu:v.under (id+1)=true) (t:TypeId):Cc ty t h (.ref id [i] t) v=some (h.set id (.agg u (fs.set i v))):=by
 simp only[Cc,if_true,ht,hu,Bool.and_self,wr,hh,Option.bind_some,V.upd,List.getElem?_eq_getElem hi,Option.map_some]
@[go_sem] theorem ASE {ty:V→Bool} {h:List V} {id i:Nat} {v:V} (ht:ty v=true) (hu:v.under (id+1)=true) (t:TypeId):Cc ty t h (.ref id [i] t) v=(h[id]?).bind fun r=>(V.upd [i] r v).map fun r'=>h.set id r':=by
  simp only[Cc,if_true,ht,hu,Bool.and_self,wr]
@[go_sem] theorem ASF {i:Nat} {fs:List V} (h:i<fs.length) (u:TypeId) (v:V):V.upd [i] (.agg u fs) v=some (.agg u (fs.set i v)):=by
  simp only[V.upd,List.getElem?_eq_getElem h,Option.bind_some,Option.map_some]
@[go_sem] theorem AQ0 {i:Nat} {fs:List V} (h:i<fs.length) (u:TypeId) (v:V):V.upd [i] (.row u fs) v=some (.row u (fs.set i v)):=by
  simp only[V.upd,List.getElem?_eq_getElem h,Option.bind_some,Option.map_some]
@[go_sem] theorem ASG (s:List UInt8):lnS (.str s)=some (.int .i64 s.length):=(rfl)
@[go_sem] theorem ASH (e:TypeId) (f:Fl) (xs:List V):DK (.lst e f xs)=some (.int .i64 xs.length):=(rfl)
@[go_sem] theorem ASI (id:Nat) (p:List Nat) (o l e:Nat):DK (.win id p o l e)=some (.int .i64 l):=(rfl)
@[go_sem] theorem SS (e:TypeId) (f:Fl) (xs:List V) (k:IntKind) (i:Nat):Di e (.lst e f xs) (.int k (i:Int))=(xs[i]?).map (.rop e):=by
  simp only[Di,inside,decide_true,Bool.true_and]
  by_cases h:i<xs.length
  ·simp[h]
  ·have:xs[i]?=none:=List.getElem?_eq_none (by omega)
   simp[h,this]
@[go_sem] theorem ASJ (e:TypeId) (f:Fl) (xs:List V) (k:IntKind):Di e (.lst e f xs) (.int k 0)=(xs[0]?).map (.rop e):=SS e f xs k 0
@[go_sem] theorem ASL (e:TypeId) (f:Fl) (xs:List V) (k:IntKind):Di e (.lst e f xs) (.int k 1)=(xs[1]?).map (.rop e):=SS e f xs k 1
@[go_sem] theorem ASM (e:TypeId) (f:Fl) (xs:List V) (k:IntKind):Di e (.lst e f xs) (.int k 2)=(xs[2]?).map (.rop e):=SS e f xs k 2
@[go_sem] theorem ASN (e:TypeId) (f:Fl) (xs:List V) (k:IntKind):Di e (.lst e f xs) (.int k 3)=(xs[3]?).map (.rop e):=SS e f xs k 3
@[go_sem] theorem AOZ (s:List UInt8) (k:IntKind) (i:Nat):ixT (.str s) (.int k (i:Int))=(s[i]?).map fun b=> .int .u8 b.toNat:=by
  simp only[ixT,inside]
  by_cases h:i<s.length
  ·simp[h]
  ·have:s[i]?=none:=List.getElem?_eq_none (by omega)
   simp[h,this]
@[go_sem] theorem ASO (s:List UInt8) (k:IntKind):ixT (.str s) (.int k 0)=(s[0]?).map fun b=> .int .u8 b.toNat:=AOZ s k 0
@[go_sem] theorem ASP {i:Nat} {n:Nat} (h:i<n) (t u e id:Nat) (p:List Nat) (k:IntKind):ixA t u n e (.ref id p t) (.int k (i:Int))=some (.ref id (p++[i]) e):=by simp[ixA,inside,h]
@[go_sem] theorem AL2 {s:List UInt8} {i:Nat} (h:i≤s.length) (k:IntKind):slT (.str s) (some (.int k (i:Int))) none=some (.str (s.drop i)):=by simp[slT,Bv,h]
@[go_sem] theorem AQ1 {s:List UInt8} {j:Nat} (h:j≤s.length) (k:IntKind):slT (.str s) none (some (.int k (j:Int)))=some (.str (s.take j)):=by simp[slT,Bv,h]
@[go_sem] theorem AOa {s:List UInt8} {i j:Nat} (h:i≤j) (h2:j≤s.length) (k k':IntKind):slT (.str s) (some (.int k (i:Int))) (some (.int k' (j:Int)))=some (.str ((s.take j).drop i)):=by simp[slT,Bv,h,h2]
@[go_sem] theorem AQ2 {xs:List V} {i:Nat} (h:i≤xs.length) (e:TypeId) (f:Fl) (k:IntKind):slL e (.lst e f xs) (some (.int k (i:Int))) none none=some (.lst e f.cut (xs.drop i)):=by simp[slL,Bv,h]
@[go_sem] theorem AQ3 {xs:List V} {j:Nat} (h:j≤xs.length) (e:TypeId) (f:Fl) (k:IntKind):slL e (.lst e f xs) none (some (.int k (j:Int))) none=some (.lst e f.cut (xs.take j)):=by simp[slL,Bv,h]
@[go_sem] theorem AQ4 {xs:List V} {j:Nat} (h:j≤xs.length) (e:TypeId) (f:Fl) (k k':IntKind):slL e (.lst e f xs) none (some (.int k (j:Int))) (some (.int k' (j:Int)))=some (.lst e f.cut (xs.take j)):=by simp[slL,Bv,h]
@[go_sem] theorem AQ5:Fl.cut .sh= .sh:=(rfl)
@[go_sem] theorem APu:Fl.cut .own= .sh:=(rfl)
@[go_sem] theorem APv:Fl.cut .nil= .nil:=(rfl)
@[go_sem] theorem ASQ (t u n e id:Nat) (p:List Nat):slA t u n e (.ref id p t) none none none=some (.win id p 0 n e):=by simp[slA,Bv]
@[go_sem] theorem ASl {α:Type} (x:α):ck [] x=some x:=(rfl)
@[go_sem] theorem ASm {α:Type} {b:Bool} (h:b=true) (bs:List Bool) (x:α):ck (b::bs) x=ck bs x:=by rw[ck,if_pos h]
@[go_sem] theorem AOb {xs:List V} (h:AY xs=true) (e:TypeId) (hs:Bool):LX e hs (some xs)=some (.lst e .own (nlB hs xs)):=by simp[LX,h]
@[go_sem] theorem AJ4 (h:List V) (e:TypeId) (f:Fl) (xs:List V):Ah h (.lst e f xs)=some xs:=(rfl)
@[go_sem] theorem Eg {h:List V} {g:Fl} {ys:List V} {ty:V→Bool} {xs:List V} (hc:AY ys=true) (ht:ys.all ty=true) (hl:xs.length+ys.length≤2147483648) (e e':TypeId) (hs:Bool):
 G6 e ty hs h (.lst e .own xs) (.lst e' g ys)=some (.lst e .own (xs++nlB hs ys)):=by
  have hy:Ah h (.lst e' g ys)=some ys:=rfl
  simp[G6,hy,hc,ht,Dh,hl]
theorem AIN {h:List V} {g:Fl} {ys:List V} {ty:V→Bool} {xs:List V} (hc:AY ys=true) (ht:ys.all ty=true) (hl:xs.length+ys.length≤2147483648) (hn:ys.isEmpty=false) (e e':TypeId) (hs:Bool):
 G6 e ty hs h (.lst e .nil xs) (.lst e' g ys)=some (.lst e .own (xs++nlB hs ys)):=by
 have hy:Ah h (.lst e' g ys)=some ys:=rfl
 simp[G6,hy,hc,ht,Dh,hl,hn]
@[go_sem] theorem Wx {h:List V} {g:Fl} {y:V} {ys:List V} {ty:V→Bool} {xs:List V} (hc:AY (y::ys)=true) (ht:(y::ys).all ty=true) (hl:xs.length+(y::ys).length≤2147483648) (e e':TypeId) (hs:Bool):
 G6 e ty hs h (.lst e .nil xs) (.lst e' g (y::ys))=some (.lst e .own (xs++nlB hs (y::ys))):=AIN hc ht hl rfl e e' hs
@[go_sem] theorem AOc {h:List V} {g:Fl} {ty:V→Bool} (e e':TypeId) (hs:Bool):G6 e ty hs h (.lst e .nil []) (.lst e' g [])=some (.lst e .nil []):=by
  cases hs<;>simp[G6,Ah,AY,Dh,nlB,AP]
@[go_sem] theorem APw (e e':TypeId):IA .eql (.lst e .nil []) (.lst e' .nil [])=some (.bool true):=(rfl)
@[go_sem] theorem ANL (e e':TypeId) (xs:List V):IA .eql (.lst e .non xs) (.lst e' .nil [])=some (.bool false):=by cases xs<;>rfl
@[go_sem] theorem APx (e e':TypeId) (x:V) (xs:List V):IA .eql (.lst e .sh (x::xs)) (.lst e' .nil [])=some (.bool false):=(rfl)
@[go_sem] theorem AQ6:Fl.wk .non= .non:=(rfl)
theorem all_map {α:Type} {c:α→V} {ty:V→Bool} (h:∀a,ty (c a)=true) (l:List α):(l.map c).all ty=true:=by simp[h]
@[go_sem] theorem AOd:AY []=true:=(rfl)
@[go_sem] theorem AOe (x:V) (xs:List V):AY (x::xs)=(x.clean&&AY xs):=(rfl)
@[go_sem] theorem APy (b:Bool):V.noOwn (.bool b)=true:=(rfl)
@[go_sem] theorem APz (k:IntKind) (n:Int):V.noOwn (.int k n)=true:=(rfl)
@[go_sem] theorem AOf {v:V} (h:v.pl=true):v.noOwn=true:=(V.PF v h).noOwn
@[go_sem] theorem AQ7 {ty:V→Bool} {x y:V} {b:Bool} (hx:ty x=true) (hy:ty y=true) (h:Jl x y=some b):NU ty .eql x y=some (.bool b):=by simp[NU,hx,hy,h]
theorem eqT_bool (a b:Bool):NU tyB .eql (.bool a) (.bool b)=some (.bool (a==b)):=by simp[NU,tyB,Jl]
theorem eqT_nbool (a b:Bool):NU tyB .neq (.bool a) (.bool b)=some (.bool (!(a==b))):=by simp[NU,tyB,Jl]
attribute [go_sem] eqT_bool eqT_nbool
@[go_sem] theorem AQ8 (id id' k:Nat) (t t':TypeId):AB5 (.ref id [] t) k (.ref id' [k] t')=true:=by simp[AB5]
end AM
end
end Go.Proofs.YtiegkempfolgcaaGreatDoor
