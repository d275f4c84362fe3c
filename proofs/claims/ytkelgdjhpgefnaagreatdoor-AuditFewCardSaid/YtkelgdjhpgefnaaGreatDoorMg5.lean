/-
  Part of the proof of a statement about the given program: an abstract machine over its code, the simulation, its functions' equations, what they compute.
-/
import Derived.Attr
import Derived.Test.YtkelgdjhpgefnaaGreatDoorMg4
set_option linter.unusedVariables false
set_option linter.unusedSimpArgs false
set_option linter.unusedSectionVars false
noncomputable section
namespace Go.Proofs.YtkelgdjhpgefnaaGreatDoor
section
namespace AM
open Go
@[congr] theorem AEI {A B:Type} {x y:Option A} (h:x=y) (K:A→Option B):x.bind K=y.bind K:=by rw[h]
@[congr] theorem AFf {B:Type} {x y:V} (h:x=y) (a b:Option B):V.ite x a b=V.ite y a b:=by rw[h]
attribute [go_sem] Option.bind_some
@[go_sem] theorem Bc {B:Type} (a b:Option B):V.ite (.bool true) a b=a:=(rfl)
@[go_sem] theorem Bo {B:Type} (a b:Option B):V.ite (.bool false) a b=b:=(rfl)
@[go_sem] theorem ACX {B:Type} {p:Bool} (h:p=true) (a b:Option B):V.ite (.bool p) a b=a:=by rw[h];rfl
@[go_sem] theorem AC7 {B:Type} {p:Bool} (h:¬p=true) (a b:Option B):V.ite (.bool p) a b=b:=by cases p<;>first|rfl|exact absurd rfl h
@[go_sem] theorem Az {B:Type} {p:Prop} [Decidable p] (h:p) (a b:Option B):V.ite (.bool (decide p)) a b=a:=by rw[decide_eq_true h];rfl
@[go_sem] theorem Ak {B:Type} {p:Prop} [Decidable p] (h:¬p) (a b:Option B):V.ite (.bool (decide p)) a b=b:=by rw[decide_eq_false h];rfl
@[go_sem] theorem ACY {B:Type} (p:Bool) (a b:Option B):V.ite (.bool (!p)) a b=V.ite (.bool p) b a:=by cases p<;>rfl
theorem AV {α β:Type} (k:α) (f:α→β):jn k f=f k:=(rfl)
mutual
def V.pl:V→Bool
 | .bool _=>true
 | .int _ _=>true
 | .str _=>true
 | .nilp=>true
 | .nilf=>true
 | .nili=>true
 | .ifv=>true
 | .agg _ fs=>LP fs
 | .lst _ .sh xs=>LP xs
 |_=>false
 termination_by structural x=>x
def LP:List V→Bool
 |[]=>true
 |x::xs=>x.pl&&LP xs
 termination_by structural x=>x
end
@[go_sem] theorem pl_bool (b:Bool):V.pl (.bool b)=true:=(rfl)
@[go_sem] theorem pl_int (k:IntKind) (n:Int):V.pl (.int k n)=true:=(rfl)
@[go_sem] theorem AC8 (s:List UInt8):V.pl (.str s)=true:=(rfl)
@[go_sem] theorem ACZ:V.pl .nilp=true:=(rfl)
@[go_sem] theorem ACa:V.pl .nili=true:=(rfl)
@[go_sem] theorem AC9 (u:TypeId) (fs:List V):V.pl (.agg u fs)=LP fs:=(rfl)
@[go_sem] theorem ADA (e:TypeId) (xs:List V):V.pl (.lst e .sh xs)=LP xs:=(rfl)
@[go_sem] theorem ACb:LP []=true:=(rfl)
@[go_sem] theorem ABF (x:V) (xs:List V):LP (x::xs)=(x.pl&&LP xs):=(rfl)
theorem Xp (xs:List V):LP xs=xs.all V.pl:=by
 induction xs with
 |nil=>rfl
 |cons x xs ih=>simp only[LP,List.all_cons,ih]
theorem RQ {α:Type} {c:α→V} (h:∀a,(c a).pl=true) (l:List α):LP (l.map c)=true:=by
 rw[Xp];simp[h]
structure PF (v:V):Prop where
 weak:v.weak=v
 norm:v.norm=v
 clean:v.clean=true
 reify:∀h,v.reify h=v
 unmut:∀h,v.unmut h=v
 under:∀n,v.under n=true
 over:∀n,v.over n=true
 away:∀n,v.away n=true
 noOwn:v.noOwn=true
structure PFL (v:List V):Prop where
 weak:DV v=v
 norm:Ag v=v
 clean:AL v=true
 reify:∀h,AP h v=v
 unmut:∀h,Ba h v=v
 under:∀n,AU n v=true
 over:∀n,Bv n v=true
 away:∀n,CW n v=true
 noOwn:Ae v=true
mutual
theorem V.PF:∀v:V,v.pl=true→PF v
 | .bool _,_=>⟨rfl,rfl,rfl,fun _=>rfl,fun _=>rfl,fun _=>rfl,fun _=>rfl,fun _=>rfl,rfl⟩
 | .int _ _,_=>⟨rfl,rfl,rfl,fun _=>rfl,fun _=>rfl,fun _=>rfl,fun _=>rfl,fun _=>rfl,rfl⟩
 | .str _,_=>⟨rfl,rfl,rfl,fun _=>rfl,fun _=>rfl,fun _=>rfl,fun _=>rfl,fun _=>rfl,rfl⟩
 | .nilp,_=>⟨rfl,rfl,rfl,fun _=>rfl,fun _=>rfl,fun _=>rfl,fun _=>rfl,fun _=>rfl,rfl⟩
 | .nilf,_=>⟨rfl,rfl,rfl,fun _=>rfl,fun _=>rfl,fun _=>rfl,fun _=>rfl,fun _=>rfl,rfl⟩
 | .nili,_=>⟨rfl,rfl,rfl,fun _=>rfl,fun _=>rfl,fun _=>rfl,fun _=>rfl,fun _=>rfl,rfl⟩
 | .ifv,_=>⟨rfl,rfl,rfl,fun _=>rfl,fun _=>rfl,fun _=>rfl,fun _=>rfl,fun _=>rfl,rfl⟩
 | .agg u fs,h=>by
   have p:=V.PFL fs h
   exact⟨by simp only[V.weak,p.weak],by simp only[V.norm,p.norm],by simp only[V.clean,p.clean],fun h=>by simp only[V.reify,p.reify],fun h=>by simp only[V.unmut,p.unmut],fun n=>by simp only[V.under,p.under],fun n=>by simp only[V.over,p.over],fun n=>by simp only[V.away,p.away],by simp only[V.noOwn,p.noOwn]⟩
 | .lst e .sh xs,h=>⟨rfl,rfl,rfl,fun _=>rfl,fun _=>rfl,fun _=>rfl,fun _=>rfl,fun _=>rfl,rfl⟩
 | .lst _ .own _,h=>by cases h
 | .lst _ .nil _,h=>by cases h
 | .lst _ .lent _,h=>by cases h
 | .row _ _,h=>by cases h
 | .win _ _ _ _ _,h=>by cases h
 | .ref _ _ _,h=>by cases h
 | .rop _ _,h=>by cases h
 | .clo _ _,h=>by cases h
 | .tup _,h=>by cases h
 | .undef,h=>by cases h
theorem V.PFL:∀v:List V,LP v=true→PFL v
 |[],_=>⟨rfl,rfl,rfl,fun _=>rfl,fun _=>rfl,fun _=>rfl,fun _=>rfl,fun _=>rfl,rfl⟩
 |x::xs,h=>by
  simp only[LP,Bool.and_eq_true]at h
  have p:=V.PF x h.1;have q:=V.PFL xs h.2
  exact⟨by simp only[DV,p.weak,q.weak],by simp only[Ag,p.norm,q.norm],by simp only[AL,p.clean,q.clean,Bool.and_self],fun h=>by simp only[AP,p.reify,q.reify],fun h=>by simp only[Ba,p.unmut,q.unmut],
   fun n=>by simp only[AU,p.under,q.under,Bool.and_self],fun n=>by simp only[Bv,p.over,q.over,Bool.and_self],fun n=>by simp only[CW,p.away,q.away,Bool.and_self],by simp only[Ae,p.noOwn,q.noOwn,Bool.and_self]⟩
end
@[go_sem] theorem ACc {v:V} (h:v.pl=true):v.weak=v:=(V.PF v h).weak
@[go_sem] theorem ACd {v:V} (h:v.pl=true):v.norm=v:=(V.PF v h).norm
@[go_sem] theorem ABG {v:V} (h:v.pl=true):v.clean=true:=(V.PF v h).clean
@[go_sem] theorem ABH {v:V} (h:v.pl=true) (hp:List V):v.reify hp=v:=(V.PF v h).reify hp
@[go_sem] theorem ABJ {v:V} (h:v.pl=true) (hp:List V):v.unmut hp=v:=(V.PF v h).unmut hp
@[go_sem] theorem ABK {v:V} (h:v.pl=true) (n:Nat):v.under n=true:=(V.PF v h).under n
@[go_sem] theorem ACe {v:V} (h:v.pl=true) (n:Nat):v.over n=true:=(V.PF v h).over n
@[go_sem] theorem Tn {v:List V} (h:LP v=true):AL v=true:=(V.PFL v h).clean
@[go_sem] theorem ABL {v:List V} (h:LP v=true):Ag v=v:=(V.PFL v h).norm
@[go_sem] theorem AAn {v:List V} (h:LP v=true) (hp:List V):AP hp v=v:=(V.PFL v h).reify hp
def Fl.wk:Fl→Fl| .own=> .sh|f=>f
def Fl.rf:Fl→Fl| .lent=> .lent|_=> .sh
@[go_sem] theorem AEJ:Fl.wk .sh= .sh:=(rfl)
@[go_sem] theorem ADB:Fl.wk .own= .sh:=(rfl)
@[go_sem] theorem ADC:Fl.wk .nil= .nil:=(rfl)
@[go_sem] theorem AEK (f:Fl):f.wk.wk=f.wk:=by cases f<;>rfl
@[go_sem] theorem AEL (f:Fl):f.wk.rf=f.rf:=by cases f<;>rfl
@[go_sem] theorem AEM (f:Fl):f.rf.rf=f.rf:=by cases f<;>rfl
@[go_sem] theorem AEN (f:Fl):f.rf.wk=f.rf:=by cases f<;>rfl
@[go_sem] theorem AEO:Fl.rf .sh= .sh:=(rfl)
@[go_sem] theorem ADE:Fl.rf .own= .sh:=(rfl)
@[go_sem] theorem ADF:Fl.rf .nil= .sh:=(rfl)
@[go_sem] theorem ACf:Fl.rf .lent= .lent:=(rfl)
@[go_sem] theorem AAo (e:TypeId) (f:Fl) (xs:List V):V.weak (.lst e f xs)= .lst e f.wk xs:=by cases f<;>rfl
@[go_sem] theorem AAp {xs:List V} (h:LP xs=true) (hp:List V) (e:TypeId) (f:Fl):V.reify hp (.lst e f xs)= .lst e f.rf xs:=by
  cases f<;>simp only[V.reify,Fl.rf,(V.PFL xs h).reify]
@[go_sem] theorem ABM (e:TypeId) (f:Fl) (xs:List V):V.norm (.lst e f xs)= .lst e f.rf xs:=by cases f<;>rfl
@[go_sem] theorem ABN (h:List V) (x:V) (xs:List V):AP h (x::xs)=x.reify h::AP h xs:=(rfl)
@[go_sem] theorem ABO (h:List V):AP h []=[]:=(rfl)
@[go_sem] theorem ACg (x:V) (xs:List V):Ag (x::xs)=x.norm::Ag xs:=(rfl)
@[go_sem] theorem ACh:Ag []=[]:=(rfl)
@[go_sem] theorem ABP (id:Nat) (p:List Nat) (t:TypeId):V.norm (.ref id p t)= .ref id p t:=(rfl)
@[go_sem] theorem ABQ (id:Nat) (p:List Nat) (o l e:Nat):V.norm (.win id p o l e)= .win id p o l e:=(rfl)
@[go_sem] theorem ABR (t:TypeId) (v:V):V.norm (.rop t v)= .rop t v:=(rfl)
@[go_sem] theorem ABS (f:FuncId) (cs:List V):V.norm (.clo f cs)= .clo f cs:=(rfl)
@[go_sem] theorem AAq (h:List V) (f:FuncId) (cs:List V):V.reify h (.clo f cs)= .clo f (AP h cs):=(rfl)
@[go_sem] theorem AAr (h:List V) (u:TypeId) (fs:List V):V.reify h (.agg u fs)= .agg u (AP h fs):=(rfl)
@[go_sem] theorem ABT (u:TypeId) (fs:List V):V.weak (.agg u fs)= .agg u (DV fs):=(rfl)
@[go_sem] theorem ACi (x:V) (xs:List V):DV (x::xs)=x.weak::DV xs:=(rfl)
@[go_sem] theorem ACj:DV []=[]:=(rfl)
@[go_sem] theorem AAs (n:Nat) (u:TypeId) (fs:List V):V.under n (.agg u fs)=AU n fs:=(rfl)
@[go_sem] theorem ABU (n:Nat) (x:V) (xs:List V):AU n (x::xs)=(x.under n&&AU n xs):=(rfl)
@[go_sem] theorem ABV (n:Nat):AU n []=true:=(rfl)
@[go_sem] theorem AAt {f:Fl} (hf:f≠ .lent) (n:Nat) (e:TypeId) (xs:List V):V.under n (.lst e f xs)=true:=by cases f<;>first|rfl|exact absurd rfl hf
@[go_sem] theorem AAu (n:Nat) (e:TypeId) (xs:List V):V.under n (.lst e .own xs)=true:=(rfl)
@[go_sem] theorem AAv (n:Nat) (e:TypeId) (xs:List V):V.under n (.lst e .nil xs)=true:=(rfl)
@[go_sem] theorem ABW (n:Nat) (e:TypeId) (xs:List V):V.under n (.lst e .sh xs)=true:=(rfl)
@[go_sem] theorem AAw {id n:Nat} (h:id<n) (p:List Nat) (t:TypeId):V.under n (.ref id p t)=true:=by simp[V.under,h]
@[go_sem] theorem AAx {id n:Nat} (h:id<n) (p:List Nat) (o l e:Nat):V.under n (.win id p o l e)=true:=by simp[V.under,h]
theorem c0:((0:Nat):Int)=0:=(rfl)
theorem c1:((1:Nat):Int)=1:=(rfl)
@[go_sem] theorem AAy (n:Nat) (f:FuncId) (xs:List V):V.under n (.clo f xs)=AU n xs:=(rfl)
@[go_sem] theorem AAz (e:TypeId) (xs:List V):V.clean (.lst e .own xs)=true:=(rfl)
@[go_sem] theorem clean_nil (e:TypeId) (xs:List V):V.clean (.lst e .nil xs)=true:=(rfl)
attribute [go_sem] Bool.and_self Bool.and_true Bool.true_and if_true
@[go_sem] theorem ACk (ty:V→Bool):List.all [] ty=true:=(rfl)
@[go_sem] theorem all_cons (ty:V→Bool) (x:V) (xs:List V):List.all (x::xs) ty=(ty x&&List.all xs ty):=(rfl)
@[go_sem] theorem ACl {v:V} (h:v.pl=true) (n:Nat) (hp:List V):Bh n hp v=some (v,hp.take n):=by
  have p:=V.PF v h
  simp only[Bh,p.unmut,p.norm,p.clean,p.over,Bool.and_self,if_true]
@[go_sem] theorem ABX (n:Nat) (hp:List V) (e:TypeId) (xs:List V):Bh n hp (.lst e .own xs)=some (.lst e .sh xs,hp.take n):=(rfl)
@[go_sem] theorem ABY (n:Nat) (hp:List V) (e:TypeId) (xs:List V):Bh n hp (.lst e .nil xs)=some (.lst e .sh xs,hp.take n):=(rfl)
@[go_sem] theorem ACm (n:Nat) (hp:List V) (e:TypeId) (xs:List V):Bh n hp (.lst e .sh xs)=some (.lst e .sh xs,hp.take n):=(rfl)
mutual
def V.fok:V→Bool
 | .bool _=>true
 | .int _ _=>true
 | .str _=>true
 | .nilp=>true
 | .nilf=>true
 | .nili=>true
 | .ifv=>true
 | .agg _ fs=>Jf fs
 | .lst _ .own _=>true
 | .lst _ .nil _=>true
 | .lst _ .sh _=>true
 |_=>false
 termination_by structural x=>x
def Jf:List V→Bool
 |[]=>true
 |x::xs=>x.fok&&Jf xs
 termination_by structural x=>x
end
@[go_sem] theorem ACn (u:TypeId) (fs:List V):V.fok (.agg u fs)=Jf fs:=(rfl)
@[go_sem] theorem ADG:Jf []=true:=(rfl)
@[go_sem] theorem ADH (x:V) (xs:List V):Jf (x::xs)=(x.fok&&Jf xs):=(rfl)
@[go_sem] theorem ACo (e:TypeId) (xs:List V):V.fok (.lst e .own xs)=true:=(rfl)
@[go_sem] theorem ACp (e:TypeId) (xs:List V):V.fok (.lst e .nil xs)=true:=(rfl)
@[go_sem] theorem ADI (e:TypeId) (xs:List V):V.fok (.lst e .sh xs)=true:=(rfl)
@[go_sem] theorem ABZ (u:TypeId) (fs:List V):V.norm (.agg u fs)= .agg u (Ag fs):=(rfl)
mutual
theorem V.fok_pl':∀v:V,v.pl=true→v.fok=true
 | .bool _,_=>rfl
 | .int _ _,_=>rfl
 | .str _,_=>rfl
 | .nilp,_=>rfl
 | .nilf,_=>rfl
 | .nili,_=>rfl
 | .ifv,_=>rfl
 | .agg _ fs,h=>OM fs h
 | .lst _ .sh _,_=>rfl
 | .lst _ .own _,h=>by cases h
 | .lst _ .nil _,h=>by cases h
 | .lst _ .lent _,h=>by cases h
 | .row _ _,h=>by cases h
 | .win _ _ _ _ _,h=>by cases h
 | .ref _ _ _,h=>by cases h
 | .rop _ _,h=>by cases h
 | .clo _ _,h=>by cases h
 | .tup _,h=>by cases h
 | .undef,h=>by cases h
theorem OM:∀v:List V,LP v=true→Jf v=true
 |[],_=>rfl
 |x::xs,h=>by
  simp only[LP,Bool.and_eq_true]at h
  simp only[Jf,V.fok_pl' x h.1,OM xs h.2,Bool.and_self]
end
@[go_sem] theorem ADJ {v:V} (h:v.pl=true):v.fok=true:=V.fok_pl' v h
mutual
theorem V.fok_all:∀v:V,v.fok=true→(∀hp,v.unmut hp=v)∧v.norm.clean=true∧(∀n,v.norm.over n=true)∧v.okE=true
 | .bool _,_=>⟨fun _=>rfl,rfl,fun _=>rfl,rfl⟩
 | .int _ _,_=>⟨fun _=>rfl,rfl,fun _=>rfl,rfl⟩
 | .str _,_=>⟨fun _=>rfl,rfl,fun _=>rfl,rfl⟩
 | .nilp,_=>⟨fun _=>rfl,rfl,fun _=>rfl,rfl⟩
 | .nilf,_=>⟨fun _=>rfl,rfl,fun _=>rfl,rfl⟩
 | .nili,_=>⟨fun _=>rfl,rfl,fun _=>rfl,rfl⟩
 | .ifv,_=>⟨fun _=>rfl,rfl,fun _=>rfl,rfl⟩
 | .agg u fs,h=>by
   obtain⟨a,b,c⟩:=Jg fs h
   exact⟨fun hp=>by simp only[V.unmut,a],by simp only[V.norm,V.clean,b],fun n=>by simp only[V.norm,V.over,c],rfl⟩
 | .lst _ .own _,_=>⟨fun _=>rfl,rfl,fun _=>rfl,rfl⟩
 | .lst _ .nil _,_=>⟨fun _=>rfl,rfl,fun _=>rfl,rfl⟩
 | .lst _ .sh _,_=>⟨fun _=>rfl,rfl,fun _=>rfl,rfl⟩
 | .lst _ .lent _,h=>by cases h
 | .row _ _,h=>by cases h
 | .win _ _ _ _ _,h=>by cases h
 | .ref _ _ _,h=>by cases h
 | .rop _ _,h=>by cases h
 | .clo _ _,h=>by cases h
 | .tup _,h=>by cases h
 | .undef,h=>by cases h
theorem Jg:∀v:List V,Jf v=true→(∀hp,Ba hp v=v)∧AL (Ag v)=true∧(∀n,Bv n (Ag v)=true)
 |[],_=>⟨fun _=>rfl,rfl,fun _=>rfl⟩
 |x::xs,h=>by
  simp only[Jf,Bool.and_eq_true]at h
  obtain⟨a,b,c,_⟩:=V.fok_all x h.1;obtain⟨a',b',c'⟩:=Jg xs h.2
  exact⟨fun hp=>by simp only[Ba,a,a'],by simp only[Ag,AL,b,b',Bool.and_self],fun n=>by simp only[Ag,Bv,c,c',Bool.and_self]⟩
end
mutual
theorem V.over_norm:∀(v:V) (n:Nat),v.norm.over n=v.over n
 | .agg u fs,n=>by simp only[V.norm,V.over,Du]
 | .row u fs,n=>by simp only[V.norm,V.over,Du]
 | .tup fs,n=>by simp only[V.norm,V.over,Du]
 | .lst _ f _,n=>by cases f<;>rfl
 | .bool _,_=>rfl
 | .int _ _,_=>rfl
 | .str _,_=>rfl
 | .nilp,_=>rfl
 | .nilf,_=>rfl
 | .nili,_=>rfl
 | .ifv,_=>rfl
 | .win _ _ _ _ _,_=>rfl
 | .ref _ _ _,_=>rfl
 | .rop _ _,_=>rfl
 | .clo _ _,_=>rfl
 | .undef,_=>rfl
theorem Du:∀(v:List V) (n:Nat),Bv n (Ag v)=Bv n v
 |[],_=>rfl
 |x::xs,n=>by simp only[Ag,Bv,V.over_norm x n,Du xs n]
end
@[go_sem] theorem ABa {u:TypeId} {fs:List V} (h:Jf fs=true) (n:Nat) (hp:List V):Bh n hp (.agg u fs)=some (.agg u (Ag fs),hp.take n):=by
  obtain⟨a,b,c⟩:=Jg fs h
  have ov:∀n,Bv n fs=true:=fun n=>by rw[←Du];exact c n
  simp only[Bh,V.unmut,a,V.norm,V.clean,b,V.over,ov,Bool.and_self,if_true]
@[go_sem] theorem ACq {a:V} (ha:a.fok=true) (n:Nat) (hp:List V):Bh n hp (V.tup [a])=some (.tup [a.norm],hp.take n):=by
  obtain⟨a1,a3,a4,a5⟩:=V.fok_all a ha
  simp only[V.over_norm]at a4
  simp only[Bh,V.unmut,Ba,a1,V.norm,Ag,V.clean,AL,a3,V.over,Bv,a4,Bool.and_self,if_true]
@[go_sem] theorem ADK {a b:V} (ha:a.fok=true) (hb:b.fok=true) (n:Nat) (hp:List V):Bh n hp (V.tup [a,b])=some (.tup [a.norm,b.norm],hp.take n):=by
  obtain⟨a1,a3,a4,a5⟩:=V.fok_all a ha;obtain⟨b1,b3,b4,b5⟩:=V.fok_all b hb
  simp only[V.over_norm]at a4 b4
  simp only[Bh,V.unmut,Ba,a1,b1,V.norm,Ag,V.clean,AL,a3,b3,V.over,Bv,a4,b4,Bool.and_self,if_true]
@[go_sem] theorem ADL {a b c:V} (ha:a.fok=true) (hb:b.fok=true) (hc:c.fok=true) (n:Nat) (hp:List V):Bh n hp (V.tup [a,b,c])=some (.tup [a.norm,b.norm,c.norm],hp.take n):=by
  obtain⟨a1,a3,a4,a5⟩:=V.fok_all a ha;obtain⟨b1,b3,b4,b5⟩:=V.fok_all b hb;obtain⟨c1,c3,c4,c5⟩:=V.fok_all c hc
  simp only[V.over_norm]at a4 b4 c4
  simp only[Bh,V.unmut,Ba,a1,b1,c1,V.norm,Ag,V.clean,AL,a3,b3,c3,V.over,Bv,a4,b4,c4,Bool.and_self,if_true]
@[go_sem] theorem ADM (n:Nat) (hp:List V):Bh n hp (V.tup [])=some (.tup [],hp.take n):=(rfl)
@[go_sem] theorem ACr {v:V} (h:v.fok=true):v.okE=true:=(V.fok_all v h).2.2.2
@[go_sem] theorem ABb (n:Nat) (hp:List V) (e:TypeId) (xs:List V):LM n hp (.lst e .own xs)=some (.lst e .own xs,hp.take n):=(rfl)
@[go_sem] theorem ABc (n:Nat) (hp:List V) (e:TypeId) (xs:List V):LM n hp (.lst e .nil xs)=some (.lst e .nil xs,hp.take n):=(rfl)
@[go_sem] theorem AEP (a:V) (l:List V):ext (.tup (a::l)) 0=some a:=(rfl)
@[go_sem] theorem AEQ (a b:V) (l:List V):ext (.tup (a::b::l)) 1=some b:=(rfl)
@[go_sem] theorem AER (a b c:V) (l:List V):ext (.tup (a::b::c::l)) 2=some c:=(rfl)
@[go_sem] theorem AES (a b c d:V) (l:List V):ext (.tup (a::b::c::d::l)) 3=some d:=(rfl)
@[go_sem] theorem ADN (a:V) (l:List V):TT (.tup (a::l)) 0=some a.weak:=(rfl)
@[go_sem] theorem ADO (a b:V) (l:List V):TT (.tup (a::b::l)) 1=some b.weak:=(rfl)
@[go_sem] theorem ADP (a b c:V) (l:List V):TT (.tup (a::b::c::l)) 2=some c.weak:=(rfl)
@[go_sem] theorem AET (b:Bool):tyB (.bool b)=true:=(rfl)
@[go_sem] theorem AEU (k:IntKind) (n:Int):tyI k (.int k n)=true:=by simp[tyI]
@[go_sem] theorem AEV (s:List UInt8):tyS (.str s)=true:=(rfl)
@[go_sem] theorem AEW (u:TypeId) (fs:List V):tyG u (.agg u fs)=true:=by simp[tyG]
@[go_sem] theorem AEX (e:TypeId) (f:Fl) (xs:List V):tyL e (.lst e f xs)=true:=by simp[tyL]
@[go_sem] theorem AEY (id:Nat) (p:List Nat) (t:TypeId):tyP (.ref id p t)=true:=(rfl)
@[go_sem] theorem AEZ (f:FuncId) (cs:List V):tyF (.clo f cs)=true:=(rfl)
attribute [go_sem] b_lss b_leq b_gtr b_geq b_eql b_neq s_eql s_neq
@[go_sem] theorem ADQ (b:Bool):un .not (.bool b)=some (.bool (!b)):=(rfl)
@[go_sem high] theorem add1 {a:Nat} (h:a+1<4611686018427387904):AO .add (.int .i64 (a:Int)) (.int .i64 1)=some (.int .i64 ((a+1:Nat):Int)):=by
  rw[Ey,wrap_i64 (by omega) (by omega)];congr 2
@[go_sem high] theorem addN {a b:Nat} (h:a+b<4611686018427387904):AO .add (.int .i64 (a:Int)) (.int .i64 (b:Int))=some (.int .i64 ((a+b:Nat):Int)):=by
  rw[Ey,wrap_i64 (by omega) (by omega)];congr 2
@[go_sem high] theorem AFg {a:Nat} (h:1≤a) (h2:a<4611686018427387904):AO .sub (.int .i64 (a:Int)) (.int .i64 1)=some (.int .i64 ((a-1:Nat):Int)):=by
  rw[Je,wrap_i64 (by omega) (by omega)];congr 2;omega
@[go_sem high] theorem AFh {a b:Nat} (h:b≤a) (h2:a<4611686018427387904):AO .sub (.int .i64 (a:Int)) (.int .i64 (b:Int))=some (.int .i64 ((a-b:Nat):Int)):=by
  rw[Je,wrap_i64 (by omega) (by omega)];congr 2;omega
@[go_sem high] theorem AEa {a:Nat} (h:a+1<18446744073709551616):AO .add (.int .u64 (a:Int)) (.int .u64 1)=some (.int .u64 ((a+1:Nat):Int)):=by
  rw[Ey,wrap_u64 (by omega) (by omega)];congr 2
@[go_sem] theorem AEb {a b:Int} (h1: -9223372036854775808≤a+b) (h2:a+b<9223372036854775808):AO .add (.int .i64 a) (.int .i64 b)=some (.int .i64 (a+b)):=by rw[Ey,wrap_i64 h1 h2]
@[go_sem] theorem AEc {a b:Int} (h1: -9223372036854775808≤a-b) (h2:a-b<9223372036854775808):AO .sub (.int .i64 a) (.int .i64 b)=some (.int .i64 (a-b)):=by rw[Je,wrap_i64 h1 h2]
@[go_sem] theorem AEd {a b:Int} (h1: -9223372036854775808≤a*b) (h2:a*b<9223372036854775808):AO .mul (.int .i64 a) (.int .i64 b)=some (.int .i64 (a*b)):=by rw[VD,wrap_i64 h1 h2]
theorem Ll (a b:Nat):(a:Int).tdiv b=((a/b:Nat):Int)∧(a:Int).tmod b=((a%b:Nat):Int):=⟨rfl,rfl⟩
@[go_sem] theorem ADR {a b:Nat} (h:0<b) (k:IntKind):AO .rem (.int k (a:Int)) (.int k (b:Int))=some (.int k ((a%b:Nat):Int)):=by
  rw[RP _ _ _ (by omega),(Ll a b).2]
@[go_sem] theorem AFi {a:Nat} (h2:a<9223372036854775808):AO .quo (.int .i64 (a:Int)) (.int .i64 2)=some (.int .i64 ((a/2:Nat):Int)):=by
  rw[VE _ _ _ (by omega),show(a:Int).tdiv 2=((a/2:Nat):Int)from rfl,wrap_i64 (by omega) (by omega)]
@[go_sem] theorem AFj {a b:Nat} (h:0<b) (h2:a<9223372036854775808):AO .quo (.int .i64 (a:Int)) (.int .i64 (b:Int))=some (.int .i64 ((a/b:Nat):Int)):=by
  have:=Nat.div_le_self a b
  rw[VE _ _ _ (by omega),(Ll a b).1]
  generalize a/b=q at*
  rw[wrap_i64 (by omega) (by omega)]
@[go_sem high] theorem AEe (a:List UInt8):AO .eql (.str a) (.str a)=some (.bool true):=by rw[s_eql,decide_eq_true rfl]
@[go_sem high] theorem AEf (a:List UInt8):AO .neq (.str a) (.str a)=some (.bool false):=by rw[s_neq];simp
@[go_sem high] theorem AEg (k:IntKind) (a:Int):AO .eql (.int k a) (.int k a)=some (.bool true):=by rw[b_eql,decide_eq_true rfl]
@[go_sem high] theorem AEh (k:IntKind) (a:Int):AO .neq (.int k a) (.int k a)=some (.bool false):=by rw[b_neq];simp
@[go_sem] theorem AEi {a b:List UInt8} (h:a.length+b.length≤4611686018427387904):AO .add (.str a) (.str b)=some (.str (a++b)):=ABD a b h
theorem cvI_i64 {k:IntKind} {n:Int} (h1: -9223372036854775808≤n) (h2:n<9223372036854775808):VH .i64 (.int k n)=some (.int .i64 n):=by rw[VH,wrap_i64 h1 h2]
theorem cvI_u64 {k:IntKind} {n:Int} (h1:0≤n) (h2:n<18446744073709551616):VH .u64 (.int k n)=some (.int .u64 n):=by rw[VH,wrap_u64 h1 h2]
theorem cvI_u8 {k:IntKind} {n:Int} (h1:0≤n) (h2:n<256):VH .u8 (.int k n)=some (.int .u8 n):=by rw[VH,wrap_u8 h1 h2]
attribute [go_sem] cvI_i64 cvI_u64 cvI_u8
@[go_sem] theorem AEj (s:List UInt8):cvS (.str s)=some (.str s):=(rfl)
@[go_sem] theorem AEk {s:List UInt8} (h:s.length≤2147483648) (e:TypeId):cvB e (.str s)=some (.lst e .own (bytesOf s)):=if_pos h
theorem GN:∀s:List UInt8,ED (bytesOf s)=some s
 |[]=>rfl
 |x::s=>by
  have:bytesOf (x::s)= .int .u8 x.toNat::bytesOf s:=(rfl)
  rw[this]
  simp only[ED,byteOf,GN s,Int.toNat_natCast,UInt8.ofNat_toNat,Option.bind_some,Option.map_some]
@[go_sem] theorem AEl (h:List V) (e:TypeId) (f:Fl) (s:List UInt8):cvT h (.lst e f (bytesOf s))=some (.str s):=by simp only[cvT,Aj,Option.bind_some,GN,Option.map_some]
@[go_sem] theorem ADS (s ft:TypeId) (f id:Nat) (p:List Nat):fA s ft f (.ref id p s)=some (.ref id (p++[f]) ft):=by simp[fA]
@[go_sem] theorem ADT (s ft:TypeId) (f:Nat) (u:TypeId) (xs:List V):fA s ft f (.rop s (.agg u xs))=(xs[f]?).map (.rop ft):=by simp[fA]
@[go_sem] theorem ADU (u:TypeId) (f:Nat) (hs:Bool) (xs:List V):fV u f hs (.agg u xs)=(xs[f]?).map (cpB hs):=by simp[fV]
@[go_sem] theorem AEm (v:V):cpB false v=v:=(rfl)
@[go_sem] theorem AEn (v:V):cpB true v=v.weak:=(rfl)
@[go_sem] theorem AEo (v:List V):Xo false v=v:=(rfl)
@[go_sem] theorem AEp (v:List V):Xo true v=Ag v:=(rfl)
@[go_sem] theorem ABd (h:List V) (t:TypeId) (v:V):BI h t (.rop t v)=some v:=by simp[BI]
@[go_sem] theorem ABe (h:List V) (t:TypeId) (v:V):GH h t (.rop t v)=some v.weak:=by simp[GH,BI]
@[go_sem] theorem Zz (h:List V) (t:TypeId) (id:Nat):BI h t (.ref id [] t)=h[id]?:=by
  simp only[BI,if_true,rd];cases h[id]?<;>rfl
theorem ldS_r0 (h:List V) (t:TypeId) (id:Nat):GH h t (.ref id [] t)=(h[id]?).map V.weak:=by rw[GH,Zz]
@[go_sem] theorem Z4 (h:List V) (t:TypeId) (id i:Nat):BI h t (.ref id [i] t)=(h[id]?).bind fun v=>V.at [i] v:=by simp only[BI,if_true,rd]
@[go_sem] theorem ADV (h:List V) (t:TypeId) (id i:Nat):GH h t (.ref id [i] t)=((h[id]?).bind fun v=>V.at [i] v).map V.weak:=by rw[GH,Z4]
@[go_sem] theorem AFk (u i:Nat) (fs:List V):V.at [i] (.agg u fs)=fs[i]?:=by simp only[V.at];cases fs[i]?<;>rfl
@[go_sem] theorem AEq (u i:Nat) (fs:List V):V.at [i] (.row u fs)=fs[i]?:=by simp only[V.at];cases fs[i]?<;>rfl
attribute [go_sem] ldS_r0 List.nil_append List.cons_append List.append_assoc List.length_nil List.length_cons List.length_append List.getElem?_cons_zero List.getElem?_cons_succ Option.map_some List.length_map List.set_cons_zero List.set_cons_succ List.take_zero List.take_succ_cons List.take_nil Nat.zero_add List.length_drop List.length_take List.length_replicate
@[go_sem] theorem Z5 (id:Nat) (p:List Nat) (t:TypeId):IG (.ref id p t)=some (.ref id p t):=(rfl)
@[go_sem] theorem Z7 (t:TypeId) (x:V):IG (.rop t x)=some (.rop t x):=(rfl)
@[go_sem] theorem Z8 (f:FuncId) (x:List V):IG (.clo f x)=some (.clo f x):=(rfl)
@[go_sem] theorem ADW {ty:V→Bool} {h:List V} {id:Nat} {v:V} (hi:id<h.length) (ht:ty v=true) (hu:v.under (id+1)=true) (t:TypeId):stT ty t h (.ref id [] t) v=some (h.set id v):=by
  simp only[stT,if_true,ht,hu,Bool.and_self,wr,List.getElem?_eq_getElem hi,Option.bind_some,V.upd,Option.map_some]
@[go_sem] theorem AEr {ty:V→Bool} {h:List V} {id i:Nat} {v:V} (ht:ty v=true) (hu:v.under (id+1)=true) (t:TypeId):stT ty t h (.ref id [i] t) v=(h[id]?).bind fun r=>(V.upd [i] r v).map fun r'=>h.set id r':=by
  simp only[stT,if_true,ht,hu,Bool.and_self,wr]
@[go_sem] theorem AEs {i:Nat} {fs:List V} (h:i<fs.length) (u:TypeId) (v:V):V.upd [i] (.agg u fs) v=some (.agg u (fs.set i v)):=by
  simp only[V.upd,List.getElem?_eq_getElem h,Option.bind_some,Option.map_some]
@[go_sem] theorem ADX {i:Nat} {fs:List V} (h:i<fs.length) (u:TypeId) (v:V):V.upd [i] (.row u fs) v=some (.row u (fs.set i v)):=by
  simp only[V.upd,List.getElem?_eq_getElem h,Option.bind_some,Option.map_some]
@[go_sem] theorem AEt (s:List UInt8):lnS (.str s)=some (.int .i64 s.length):=(rfl)
@[go_sem] theorem AEu (e:TypeId) (f:Fl) (xs:List V):VG (.lst e f xs)=some (.int .i64 xs.length):=(rfl)
@[go_sem] theorem AEv (id:Nat) (p:List Nat) (o l e:Nat):VG (.win id p o l e)=some (.int .i64 l):=(rfl)
@[go_sem] theorem Lm (e:TypeId) (f:Fl) (xs:List V) (k:IntKind) (i:Nat):Tm e (.lst e f xs) (.int k (i:Int))=(xs[i]?).map (.rop e):=by
  simp only[Tm,inside,decide_true,Bool.true_and]
  by_cases h:i<xs.length
  ·simp[h]
  ·have:xs[i]?=none:=List.getElem?_eq_none (by omega)
   simp[h,this]
@[go_sem] theorem AEw (e:TypeId) (f:Fl) (xs:List V) (k:IntKind):Tm e (.lst e f xs) (.int k 0)=(xs[0]?).map (.rop e):=Lm e f xs k 0
@[go_sem] theorem AEx (e:TypeId) (f:Fl) (xs:List V) (k:IntKind):Tm e (.lst e f xs) (.int k 1)=(xs[1]?).map (.rop e):=Lm e f xs k 1
@[go_sem] theorem AEy (e:TypeId) (f:Fl) (xs:List V) (k:IntKind):Tm e (.lst e f xs) (.int k 2)=(xs[2]?).map (.rop e):=Lm e f xs k 2
@[go_sem] theorem AEz (e:TypeId) (f:Fl) (xs:List V) (k:IntKind):Tm e (.lst e f xs) (.int k 3)=(xs[3]?).map (.rop e):=Lm e f xs k 3
@[go_sem] theorem ABf (s:List UInt8) (k:IntKind) (i:Nat):ixT (.str s) (.int k (i:Int))=(s[i]?).map fun b=> .int .u8 b.toNat:=by
  simp only[ixT,inside]
  by_cases h:i<s.length
  ·simp[h]
  ·have:s[i]?=none:=List.getElem?_eq_none (by omega)
   simp[h,this]
@[go_sem] theorem AE0 (s:List UInt8) (k:IntKind):ixT (.str s) (.int k 0)=(s[0]?).map fun b=> .int .u8 b.toNat:=ABf s k 0
@[go_sem] theorem AE1 {i:Nat} {n:Nat} (h:i<n) (t u e id:Nat) (p:List Nat) (k:IntKind):ixA t u n e (.ref id p t) (.int k (i:Int))=some (.ref id (p++[i]) e):=by simp[ixA,inside,h]
@[go_sem] theorem ADY {s:List UInt8} {i:Nat} (h:i≤s.length) (k:IntKind):slT (.str s) (some (.int k (i:Int))) none=some (.str (s.drop i)):=by simp[slT,BH,h]
@[go_sem] theorem ADZ {s:List UInt8} {j:Nat} (h:j≤s.length) (k:IntKind):slT (.str s) none (some (.int k (j:Int)))=some (.str (s.take j)):=by simp[slT,BH,h]
@[go_sem] theorem ABg {s:List UInt8} {i j:Nat} (h:i≤j) (h2:j≤s.length) (k k':IntKind):slT (.str s) (some (.int k (i:Int))) (some (.int k' (j:Int)))=some (.str ((s.take j).drop i)):=by simp[slT,BH,h,h2]
@[go_sem] theorem ADa {xs:List V} {i:Nat} (h:i≤xs.length) (e:TypeId) (f:Fl) (k:IntKind):slL e (.lst e f xs) (some (.int k (i:Int))) none none=some (.lst e f.cut (xs.drop i)):=by simp[slL,BH,h]
@[go_sem] theorem ADb {xs:List V} {j:Nat} (h:j≤xs.length) (e:TypeId) (f:Fl) (k:IntKind):slL e (.lst e f xs) none (some (.int k (j:Int))) none=some (.lst e f.cut (xs.take j)):=by simp[slL,BH,h]
@[go_sem] theorem ADc {xs:List V} {j:Nat} (h:j≤xs.length) (e:TypeId) (f:Fl) (k k':IntKind):slL e (.lst e f xs) none (some (.int k (j:Int))) (some (.int k' (j:Int)))=some (.lst e f.cut (xs.take j)):=by simp[slL,BH,h]
@[go_sem] theorem ADd:Fl.cut .sh= .sh:=(rfl)
@[go_sem] theorem ACs:Fl.cut .own= .sh:=(rfl)
@[go_sem] theorem ACt:Fl.cut .nil= .nil:=(rfl)
@[go_sem] theorem AE2 (t u n e id:Nat) (p:List Nat):slA t u n e (.ref id p t) none none none=some (.win id p 0 n e):=by simp[slA,BH]
@[go_sem] theorem AFl {α:Type} (x:α):ck [] x=some x:=(rfl)
@[go_sem] theorem AFm {α:Type} {b:Bool} (h:b=true) (bs:List Bool) (x:α):ck (b::bs) x=ck bs x:=by rw[ck,if_pos h]
@[go_sem] theorem AE3 {xs:List V} (h:AL xs=true) (e:TypeId) (hs:Bool):bsL e hs (some xs)=some (.lst e .own (Xo hs xs)):=by simp[bsL,h]
@[go_sem] theorem ZO (h:List V) (e:TypeId) (f:Fl) (xs:List V):Aj h (.lst e f xs)=some xs:=(rfl)
@[go_sem] theorem RS {h:List V} {g:Fl} {ys:List V} {ty:V→Bool} {xs:List V} (hc:AL ys=true) (ht:ys.all ty=true) (hl:xs.length+ys.length≤2147483648) (e e':TypeId) (hs:Bool):
 VI e ty hs h (.lst e .own xs) (.lst e' g ys)=some (.lst e .own (xs++Xo hs ys)):=by
  have hy:Aj h (.lst e' g ys)=some ys:=rfl
  simp[VI,hy,hc,ht,DF,hl]
theorem Xq {h:List V} {g:Fl} {ys:List V} {ty:V→Bool} {xs:List V} (hc:AL ys=true) (ht:ys.all ty=true) (hl:xs.length+ys.length≤2147483648) (hn:ys.isEmpty=false) (e e':TypeId) (hs:Bool):
 VI e ty hs h (.lst e .nil xs) (.lst e' g ys)=some (.lst e .own (xs++Xo hs ys)):=by
 have hy:Aj h (.lst e' g ys)=some ys:=rfl
 simp[VI,hy,hc,ht,DF,hl,hn]
@[go_sem] theorem VJ {h:List V} {g:Fl} {y:V} {ys:List V} {ty:V→Bool} {xs:List V} (hc:AL (y::ys)=true) (ht:(y::ys).all ty=true) (hl:xs.length+(y::ys).length≤2147483648) (e e':TypeId) (hs:Bool):
 VI e ty hs h (.lst e .nil xs) (.lst e' g (y::ys))=some (.lst e .own (xs++Xo hs (y::ys))):=Xq hc ht hl rfl e e' hs
@[go_sem] theorem ABh {h:List V} {g:Fl} {ty:V→Bool} (e e':TypeId) (hs:Bool):VI e ty hs h (.lst e .nil []) (.lst e' g [])=some (.lst e .nil []):=by
  cases hs<;>simp[VI,Aj,AL,DF,Xo,Ag]
@[go_sem] theorem ACu (e e':TypeId):Ld .eql (.lst e .nil []) (.lst e' .nil [])=some (.bool true):=(rfl)
@[go_sem] theorem AA0 (e e':TypeId) (xs:List V):Ld .eql (.lst e .non xs) (.lst e' .nil [])=some (.bool false):=by cases xs<;>rfl
@[go_sem] theorem ACv (e e':TypeId) (x:V) (xs:List V):Ld .eql (.lst e .sh (x::xs)) (.lst e' .nil [])=some (.bool false):=(rfl)
@[go_sem] theorem ADe:Fl.wk .non= .non:=(rfl)
theorem all_map {α:Type} {c:α→V} {ty:V→Bool} (h:∀a,ty (c a)=true) (l:List α):(l.map c).all ty=true:=by simp[h]
@[go_sem] theorem ABi:AL []=true:=(rfl)
@[go_sem] theorem ABj (x:V) (xs:List V):AL (x::xs)=(x.clean&&AL xs):=(rfl)
@[go_sem] theorem ACw (b:Bool):V.noOwn (.bool b)=true:=(rfl)
@[go_sem] theorem ACx (k:IntKind) (n:Int):V.noOwn (.int k n)=true:=(rfl)
@[go_sem] theorem ABk {v:V} (h:v.pl=true):v.noOwn=true:=(V.PF v h).noOwn
@[go_sem] theorem ADf {ty:V→Bool} {x y:V} {b:Bool} (hx:ty x=true) (hy:ty y=true) (h:JF x y=some b):eqT ty .eql x y=some (.bool b):=by simp[eqT,hx,hy,h]
theorem eqT_bool (a b:Bool):eqT tyB .eql (.bool a) (.bool b)=some (.bool (a==b)):=by simp[eqT,tyB,JF]
theorem eqT_nbool (a b:Bool):eqT tyB .neq (.bool a) (.bool b)=some (.bool (!(a==b))):=by simp[eqT,tyB,JF]
attribute [go_sem] eqT_bool eqT_nbool
@[go_sem] theorem ADg (id id' k:Nat) (t t':TypeId):Xi (.ref id [] t) k (.ref id' [k] t')=true:=by simp[Xi]
end AM
end
section
open Go AM
end
end Go.Proofs.YtkelgdjhpgefnaaGreatDoor
