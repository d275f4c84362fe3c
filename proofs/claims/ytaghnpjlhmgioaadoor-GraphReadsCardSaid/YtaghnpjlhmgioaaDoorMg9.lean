/-
  Part of the proof of a statement about the given program: an abstract machine over its code, the simulation, its functions' equations, what they compute.
-/
import Derived.Attr
import Derived.Test.YtaghnpjlhmgioaaDoorMg3
import Derived.Test.YtaghnpjlhmgioaaDoorMg7
set_option linter.unusedVariables false
set_option linter.unusedSimpArgs false
set_option linter.unusedSectionVars false
noncomputable section
namespace Go.Proofs.YtaghnpjlhmgioaaDoor
section
namespace AM
open Go
@[congr] theorem AJ5 {A B:Type} {x y:Option A} (h:x=y) (K:A→Option B):x.bind K=y.bind K:=by rw[h]
@[congr] theorem AKx {B:Type} {x y:V} (h:x=y) (a b:Option B):V.ite x a b=V.ite y a b:=by rw[h]
attribute [go_sem] Option.bind_some
@[go_sem] theorem Af {B:Type} (a b:Option B):V.ite (.bool true) a b=a:=(rfl)
@[go_sem] theorem Aa {B:Type} (a b:Option B):V.ite (.bool false) a b=b:=(rfl)
@[go_sem] theorem AIf {B:Type} {p:Bool} (h:p=true) (a b:Option B):V.ite (.bool p) a b=a:=by rw[h];rfl
@[go_sem] theorem AJS {B:Type} {p:Bool} (h:¬p=true) (a b:Option B):V.ite (.bool p) a b=b:=by cases p<;>first|rfl|exact absurd rfl h
@[go_sem] theorem AQ {B:Type} {p:Prop} [Decidable p] (h:p) (a b:Option B):V.ite (.bool (decide p)) a b=a:=by rw[decide_eq_true h];rfl
@[go_sem] theorem AO {B:Type} {p:Prop} [Decidable p] (h:¬p) (a b:Option B):V.ite (.bool (decide p)) a b=b:=by rw[decide_eq_false h];rfl
@[go_sem] theorem AIg {B:Type} (p:Bool) (a b:Option B):V.ite (.bool (!p)) a b=V.ite (.bool p) b a:=by cases p<;>rfl
theorem AA {α β:Type} (k:α) (f:α→β):jn k f=f k:=(rfl)
mutual
def V.pl:V→Bool
 | .bool _=>true
 | .int _ _=>true
 | .str _=>true
 | .nilp=>true
 | .nilf=>true
 | .nili=>true
 | .ifv=>true
 | .agg _ fs=>Kw fs
 | .lst _ .sh xs=>Kw xs
 |_=>false
 termination_by structural x=>x
def Kw:List V→Bool
 |[]=>true
 |x::xs=>x.pl&&Kw xs
 termination_by structural x=>x
end
@[go_sem] theorem AIh (b:Bool):V.pl (.bool b)=true:=(rfl)
@[go_sem] theorem AJT (k:IntKind) (n:Int):V.pl (.int k n)=true:=(rfl)
@[go_sem] theorem AJU (s:List UInt8):V.pl (.str s)=true:=(rfl)
@[go_sem] theorem AIi:V.pl .nilp=true:=(rfl)
@[go_sem] theorem AIj:V.pl .nili=true:=(rfl)
@[go_sem] theorem AJV (u:TypeId) (fs:List V):V.pl (.agg u fs)=Kw fs:=(rfl)
@[go_sem] theorem AJW (e:TypeId) (xs:List V):V.pl (.lst e .sh xs)=Kw xs:=(rfl)
@[go_sem] theorem AIk:Kw []=true:=(rfl)
@[go_sem] theorem AHH (x:V) (xs:List V):Kw (x::xs)=(x.pl&&Kw xs):=(rfl)
theorem ADP (xs:List V):Kw xs=xs.all V.pl:=by
 induction xs with
 |nil=>rfl
 |cons x xs ih=>simp only[Kw,List.all_cons,ih]
theorem Ef {α:Type} {c:α→V} (h:∀a,(c a).pl=true) (l:List α):Kw (l.map c)=true:=by
 rw[ADP];simp[h]
structure PF (v:V):Prop where
 weak:v.weak=v
 norm:v.norm=v
 clean:v.clean=true
 reify:∀h,v.reify h=v
 unmut:∀h,v.unmut h=v
 under:∀n,v.under n=true
 over:∀n,v.over n=true
 away:∀n,v.away n=true
 noOwn:v.noOwn=true
structure PFL (v:List V):Prop where
 weak:ES v=v
 norm:Ac v=v
 clean:AX v=true
 reify:∀h,AZ h v=v
 unmut:∀h,DX h v=v
 under:∀n,Ar n v=true
 over:∀n,Dj n v=true
 away:∀n,DK n v=true
 noOwn:BA v=true
mutual
theorem V.PF:∀v:V,v.pl=true→PF v
 | .bool _,_=>⟨rfl,rfl,rfl,fun _=>rfl,fun _=>rfl,fun _=>rfl,fun _=>rfl,fun _=>rfl,rfl⟩
 | .int _ _,_=>⟨rfl,rfl,rfl,fun _=>rfl,fun _=>rfl,fun _=>rfl,fun _=>rfl,fun _=>rfl,rfl⟩
 | .str _,_=>⟨rfl,rfl,rfl,fun _=>rfl,fun _=>rfl,fun _=>rfl,fun _=>rfl,fun _=>rfl,rfl⟩
 | .nilp,_=>⟨rfl,rfl,rfl,fun _=>rfl,fun _=>rfl,fun _=>rfl,fun _=>rfl,fun _=>rfl,rfl⟩
 | .nilf,_=>⟨rfl,rfl,rfl,fun _=>rfl,fun _=>rfl,fun _=>rfl,fun _=>rfl,fun _=>rfl,rfl⟩
 | .nili,_=>⟨rfl,rfl,rfl,fun _=>rfl,fun _=>rfl,fun _=>rfl,fun _=>rfl,fun _=>rfl,rfl⟩
 | .ifv,_=>⟨rfl,rfl,rfl,fun _=>rfl,fun _=>rfl,fun _=>rfl,fun _=>rfl,fun _=>rfl,rfl⟩
 | .agg u fs,h=>by
   have p:=V.PFL fs h
   exact⟨by simp only[V.weak,p.weak],by simp only[V.norm,p.norm],by simp only[V.clean,p.clean],fun h=>by simp only[V.reify,p.reify],fun h=>by simp only[V.unmut,p.unmut],fun n=>by simp only[V.under,p.under],fun n=>by simp only[V.over,p.over],fun n=>by simp only[V.away,p.away],by simp only[V.noOwn,p.noOwn]⟩
 | .lst e .sh xs,h=>⟨rfl,rfl,rfl,fun _=>rfl,fun _=>rfl,fun _=>rfl,fun _=>rfl,fun _=>rfl,rfl⟩
 | .lst _ .own _,h=>by cases h
 | .lst _ .nil _,h=>by cases h
 | .lst _ .lent _,h=>by cases h
 | .row _ _,h=>by cases h
 | .win _ _ _ _ _,h=>by cases h
 | .ref _ _ _,h=>by cases h
 | .rop _ _,h=>by cases h
 | .clo _ _,h=>by cases h
 | .tup _,h=>by cases h
 | .undef,h=>by cases h
theorem V.PFL:∀v:List V,Kw v=true→PFL v
 |[],_=>⟨rfl,rfl,rfl,fun _=>rfl,fun _=>rfl,fun _=>rfl,fun _=>rfl,fun _=>rfl,rfl⟩
 |x::xs,h=>by
  simp only[Kw,Bool.and_eq_true]at h
  have p:=V.PF x h.1;have q:=V.PFL xs h.2
  exact⟨by simp only[ES,p.weak,q.weak],by simp only[Ac,p.norm,q.norm],by simp only[AX,p.clean,q.clean,Bool.and_self],fun h=>by simp only[AZ,p.reify,q.reify],fun h=>by simp only[DX,p.unmut,q.unmut],
   fun n=>by simp only[Ar,p.under,q.under,Bool.and_self],fun n=>by simp only[Dj,p.over,q.over,Bool.and_self],fun n=>by simp only[DK,p.away,q.away,Bool.and_self],by simp only[BA,p.noOwn,q.noOwn,Bool.and_self]⟩
end
@[go_sem] theorem AIl {v:V} (h:v.pl=true):v.weak=v:=(V.PF v h).weak
@[go_sem] theorem AIm {v:V} (h:v.pl=true):v.norm=v:=(V.PF v h).norm
@[go_sem] theorem AHI {v:V} (h:v.pl=true):v.clean=true:=(V.PF v h).clean
@[go_sem] theorem AHJ {v:V} (h:v.pl=true) (hp:List V):v.reify hp=v:=(V.PF v h).reify hp
@[go_sem] theorem AHK {v:V} (h:v.pl=true) (hp:List V):v.unmut hp=v:=(V.PF v h).unmut hp
@[go_sem] theorem AHL {v:V} (h:v.pl=true) (n:Nat):v.under n=true:=(V.PF v h).under n
@[go_sem] theorem AIn {v:V} (h:v.pl=true) (n:Nat):v.over n=true:=(V.PF v h).over n
@[go_sem] theorem Ky {v:List V} (h:Kw v=true):AX v=true:=(V.PFL v h).clean
@[go_sem] theorem J3 {v:List V} (h:Kw v=true):Ac v=v:=(V.PFL v h).norm
@[go_sem] theorem AGe {v:List V} (h:Kw v=true) (hp:List V):AZ hp v=v:=(V.PFL v h).reify hp
def Fl.wk:Fl→Fl| .own=> .sh|f=>f
def Fl.rf:Fl→Fl| .lent=> .lent|_=> .sh
@[go_sem] theorem AJ6:Fl.wk .sh= .sh:=(rfl)
@[go_sem] theorem Fb:Fl.wk .own= .sh:=(rfl)
@[go_sem] theorem Fe:Fl.wk .nil= .nil:=(rfl)
@[go_sem] theorem AJ7 (f:Fl):f.wk.wk=f.wk:=by cases f<;>rfl
@[go_sem] theorem AJ8 (f:Fl):f.wk.rf=f.rf:=by cases f<;>rfl
@[go_sem] theorem AJ9 (f:Fl):f.rf.rf=f.rf:=by cases f<;>rfl
@[go_sem] theorem AKA (f:Fl):f.rf.wk=f.rf:=by cases f<;>rfl
@[go_sem] theorem AKB:Fl.rf .sh= .sh:=(rfl)
@[go_sem] theorem AJX:Fl.rf .own= .sh:=(rfl)
@[go_sem] theorem AJY:Fl.rf .nil= .sh:=(rfl)
@[go_sem] theorem AIo:Fl.rf .lent= .lent:=(rfl)
@[go_sem] theorem YX (e:TypeId) (f:Fl) (xs:List V):V.weak (.lst e f xs)= .lst e f.wk xs:=by cases f<;>rfl
@[go_sem] theorem AGf {xs:List V} (h:Kw xs=true) (hp:List V) (e:TypeId) (f:Fl):V.reify hp (.lst e f xs)= .lst e f.rf xs:=by
  cases f<;>simp only[V.reify,Fl.rf,(V.PFL xs h).reify]
@[go_sem] theorem AHM (e:TypeId) (f:Fl) (xs:List V):V.norm (.lst e f xs)= .lst e f.rf xs:=by cases f<;>rfl
@[go_sem] theorem AHN (h:List V) (x:V) (xs:List V):AZ h (x::xs)=x.reify h::AZ h xs:=(rfl)
@[go_sem] theorem AHO (h:List V):AZ h []=[]:=(rfl)
@[go_sem] theorem AIp (x:V) (xs:List V):Ac (x::xs)=x.norm::Ac xs:=(rfl)
@[go_sem] theorem AIq:Ac []=[]:=(rfl)
@[go_sem] theorem AHP (id:Nat) (p:List Nat) (t:TypeId):V.norm (.ref id p t)= .ref id p t:=(rfl)
@[go_sem] theorem AHQ (id:Nat) (p:List Nat) (o l e:Nat):V.norm (.win id p o l e)= .win id p o l e:=(rfl)
@[go_sem] theorem AHR (t:TypeId) (v:V):V.norm (.rop t v)= .rop t v:=(rfl)
@[go_sem] theorem AHS (f:FuncId) (cs:List V):V.norm (.clo f cs)= .clo f cs:=(rfl)
@[go_sem] theorem AGg (h:List V) (f:FuncId) (cs:List V):V.reify h (.clo f cs)= .clo f (AZ h cs):=(rfl)
@[go_sem] theorem AGh (h:List V) (u:TypeId) (fs:List V):V.reify h (.agg u fs)= .agg u (AZ h fs):=(rfl)
@[go_sem] theorem AHT (u:TypeId) (fs:List V):V.weak (.agg u fs)= .agg u (ES fs):=(rfl)
@[go_sem] theorem AIr (x:V) (xs:List V):ES (x::xs)=x.weak::ES xs:=(rfl)
@[go_sem] theorem AIs:ES []=[]:=(rfl)
@[go_sem] theorem AGi (n:Nat) (u:TypeId) (fs:List V):V.under n (.agg u fs)=Ar n fs:=(rfl)
@[go_sem] theorem AHU (n:Nat) (x:V) (xs:List V):Ar n (x::xs)=(x.under n&&Ar n xs):=(rfl)
@[go_sem] theorem AHV (n:Nat):Ar n []=true:=(rfl)
@[go_sem] theorem AGj {f:Fl} (hf:f≠ .lent) (n:Nat) (e:TypeId) (xs:List V):V.under n (.lst e f xs)=true:=by cases f<;>first|rfl|exact absurd rfl hf
@[go_sem] theorem AGk (n:Nat) (e:TypeId) (xs:List V):V.under n (.lst e .own xs)=true:=(rfl)
@[go_sem] theorem AGl (n:Nat) (e:TypeId) (xs:List V):V.under n (.lst e .nil xs)=true:=(rfl)
@[go_sem] theorem AHW (n:Nat) (e:TypeId) (xs:List V):V.under n (.lst e .sh xs)=true:=(rfl)
@[go_sem] theorem AGm {id n:Nat} (h:id<n) (p:List Nat) (t:TypeId):V.under n (.ref id p t)=true:=by simp[V.under,h]
@[go_sem] theorem AGn {id n:Nat} (h:id<n) (p:List Nat) (o l e:Nat):V.under n (.win id p o l e)=true:=by simp[V.under,h]
theorem c0:((0:Nat):Int)=0:=(rfl)
theorem c1:((1:Nat):Int)=1:=(rfl)
@[go_sem] theorem AGo (n:Nat) (f:FuncId) (xs:List V):V.under n (.clo f xs)=Ar n xs:=(rfl)
@[go_sem] theorem AGp (e:TypeId) (xs:List V):V.clean (.lst e .own xs)=true:=(rfl)
@[go_sem] theorem AGq (e:TypeId) (xs:List V):V.clean (.lst e .nil xs)=true:=(rfl)
attribute [go_sem] Bool.and_self Bool.and_true Bool.true_and if_true
@[go_sem] theorem AIt (ty:V→Bool):List.all [] ty=true:=(rfl)
@[go_sem] theorem all_cons (ty:V→Bool) (x:V) (xs:List V):List.all (x::xs) ty=(ty x&&List.all xs ty):=(rfl)
@[go_sem] theorem AIu {v:V} (h:v.pl=true) (n:Nat) (hp:List V):AY n hp v=some (v,hp.take n):=by
  have p:=V.PF v h
  simp only[AY,p.unmut,p.norm,p.clean,p.over,Bool.and_self,if_true]
@[go_sem] theorem AHX (n:Nat) (hp:List V) (e:TypeId) (xs:List V):AY n hp (.lst e .own xs)=some (.lst e .sh xs,hp.take n):=(rfl)
@[go_sem] theorem AHY (n:Nat) (hp:List V) (e:TypeId) (xs:List V):AY n hp (.lst e .nil xs)=some (.lst e .sh xs,hp.take n):=(rfl)
@[go_sem] theorem AIv (n:Nat) (hp:List V) (e:TypeId) (xs:List V):AY n hp (.lst e .sh xs)=some (.lst e .sh xs,hp.take n):=(rfl)
mutual
def V.fok:V→Bool
 | .bool _=>true
 | .int _ _=>true
 | .str _=>true
 | .nilp=>true
 | .nilf=>true
 | .nili=>true
 | .ifv=>true
 | .agg _ fs=>Nl fs
 | .lst _ .own _=>true
 | .lst _ .nil _=>true
 | .lst _ .sh _=>true
 |_=>false
 termination_by structural x=>x
def Nl:List V→Bool
 |[]=>true
 |x::xs=>x.fok&&Nl xs
 termination_by structural x=>x
end
@[go_sem] theorem AIw (u:TypeId) (fs:List V):V.fok (.agg u fs)=Nl fs:=(rfl)
@[go_sem] theorem AJZ:Nl []=true:=(rfl)
@[go_sem] theorem AJa (x:V) (xs:List V):Nl (x::xs)=(x.fok&&Nl xs):=(rfl)
@[go_sem] theorem AIx (e:TypeId) (xs:List V):V.fok (.lst e .own xs)=true:=(rfl)
@[go_sem] theorem AIy (e:TypeId) (xs:List V):V.fok (.lst e .nil xs)=true:=(rfl)
@[go_sem] theorem AJb (e:TypeId) (xs:List V):V.fok (.lst e .sh xs)=true:=(rfl)
@[go_sem] theorem AHZ (u:TypeId) (fs:List V):V.norm (.agg u fs)= .agg u (Ac fs):=(rfl)
mutual
theorem V.fok_pl':∀v:V,v.pl=true→v.fok=true
 | .bool _,_=>rfl
 | .int _ _,_=>rfl
 | .str _,_=>rfl
 | .nilp,_=>rfl
 | .nilf,_=>rfl
 | .nili,_=>rfl
 | .ifv,_=>rfl
 | .agg _ fs,h=>Ud fs h
 | .lst _ .sh _,_=>rfl
 | .lst _ .own _,h=>by cases h
 | .lst _ .nil _,h=>by cases h
 | .lst _ .lent _,h=>by cases h
 | .row _ _,h=>by cases h
 | .win _ _ _ _ _,h=>by cases h
 | .ref _ _ _,h=>by cases h
 | .rop _ _,h=>by cases h
 | .clo _ _,h=>by cases h
 | .tup _,h=>by cases h
 | .undef,h=>by cases h
theorem Ud:∀v:List V,Kw v=true→Nl v=true
 |[],_=>rfl
 |x::xs,h=>by
  simp only[Kw,Bool.and_eq_true]at h
  simp only[Nl,V.fok_pl' x h.1,Ud xs h.2,Bool.and_self]
end
@[go_sem] theorem AJc {v:V} (h:v.pl=true):v.fok=true:=V.fok_pl' v h
mutual
theorem V.fok_all:∀v:V,v.fok=true→(∀hp,v.unmut hp=v)∧v.norm.clean=true∧(∀n,v.norm.over n=true)∧v.okE=true
 | .bool _,_=>⟨fun _=>rfl,rfl,fun _=>rfl,rfl⟩
 | .int _ _,_=>⟨fun _=>rfl,rfl,fun _=>rfl,rfl⟩
 | .str _,_=>⟨fun _=>rfl,rfl,fun _=>rfl,rfl⟩
 | .nilp,_=>⟨fun _=>rfl,rfl,fun _=>rfl,rfl⟩
 | .nilf,_=>⟨fun _=>rfl,rfl,fun _=>rfl,rfl⟩
 | .nili,_=>⟨fun _=>rfl,rfl,fun _=>rfl,rfl⟩
 | .ifv,_=>⟨fun _=>rfl,rfl,fun _=>rfl,rfl⟩
 | .agg u fs,h=>by
   obtain⟨a,b,c⟩:=Np fs h
   exact⟨fun hp=>by simp only[V.unmut,a],by simp only[V.norm,V.clean,b],fun n=>by simp only[V.norm,V.over,c],rfl⟩
 | .lst _ .own _,_=>⟨fun _=>rfl,rfl,fun _=>rfl,rfl⟩
 | .lst _ .nil _,_=>⟨fun _=>rfl,rfl,fun _=>rfl,rfl⟩
 | .lst _ .sh _,_=>⟨fun _=>rfl,rfl,fun _=>rfl,rfl⟩
 | .lst _ .lent _,h=>by cases h
 | .row _ _,h=>by cases h
 | .win _ _ _ _ _,h=>by cases h
 | .ref _ _ _,h=>by cases h
 | .rop _ _,h=>by cases h
 | .clo _ _,h=>by cases h
 | .tup _,h=>by cases h
 | .undef,h=>by cases h
theorem Np:∀v:List V,Nl v=true→(∀hp,DX hp v=v)∧AX (Ac v)=true∧(∀n,Dj n (Ac v)=true)
 |[],_=>⟨fun _=>rfl,rfl,fun _=>rfl⟩
 |x::xs,h=>by
  simp only[Nl,Bool.and_eq_true]at h
  obtain⟨a,b,c,_⟩:=V.fok_all x h.1;obtain⟨a',b',c'⟩:=Np xs h.2
  exact⟨fun hp=>by simp only[DX,a,a'],by simp only[Ac,AX,b,b',Bool.and_self],fun n=>by simp only[Ac,Dj,c,c',Bool.and_self]⟩
end
mutual
theorem V.over_norm:∀(v:V) (n:Nat),v.norm.over n=v.over n
 | .agg u fs,n=>by simp only[V.norm,V.over,E5]
 | .row u fs,n=>by simp only[V.norm,V.over,E5]
 | .tup fs,n=>by simp only[V.norm,V.over,E5]
 | .lst _ f _,n=>by cases f<;>rfl
 | .bool _,_=>rfl
 | .int _ _,_=>rfl
 | .str _,_=>rfl
 | .nilp,_=>rfl
 | .nilf,_=>rfl
 | .nili,_=>rfl
 | .ifv,_=>rfl
 | .win _ _ _ _ _,_=>rfl
 | .ref _ _ _,_=>rfl
 | .rop _ _,_=>rfl
 | .clo _ _,_=>rfl
 | .undef,_=>rfl
theorem E5:∀(v:List V) (n:Nat),Dj n (Ac v)=Dj n v
 |[],_=>rfl
 |x::xs,n=>by simp only[Ac,Dj,V.over_norm x n,E5 xs n]
end
@[go_sem] theorem AHa {u:TypeId} {fs:List V} (h:Nl fs=true) (n:Nat) (hp:List V):AY n hp (.agg u fs)=some (.agg u (Ac fs),hp.take n):=by
  obtain⟨a,b,c⟩:=Np fs h
  have ov:∀n,Dj n fs=true:=fun n=>by rw[←E5];exact c n
  simp only[AY,V.unmut,a,V.norm,V.clean,b,V.over,ov,Bool.and_self,if_true]
@[go_sem] theorem AIz {a:V} (ha:a.fok=true) (n:Nat) (hp:List V):AY n hp (V.tup [a])=some (.tup [a.norm],hp.take n):=by
  obtain⟨a1,a3,a4,a5⟩:=V.fok_all a ha
  simp only[V.over_norm]at a4
  simp only[AY,V.unmut,DX,a1,V.norm,Ac,V.clean,AX,a3,V.over,Dj,a4,Bool.and_self,if_true]
@[go_sem] theorem AJd {a b:V} (ha:a.fok=true) (hb:b.fok=true) (n:Nat) (hp:List V):AY n hp (V.tup [a,b])=some (.tup [a.norm,b.norm],hp.take n):=by
  obtain⟨a1,a3,a4,a5⟩:=V.fok_all a ha;obtain⟨b1,b3,b4,b5⟩:=V.fok_all b hb
  simp only[V.over_norm]at a4 b4
  simp only[AY,V.unmut,DX,a1,b1,V.norm,Ac,V.clean,AX,a3,b3,V.over,Dj,a4,b4,Bool.and_self,if_true]
@[go_sem] theorem AJe {a b c:V} (ha:a.fok=true) (hb:b.fok=true) (hc:c.fok=true) (n:Nat) (hp:List V):AY n hp (V.tup [a,b,c])=some (.tup [a.norm,b.norm,c.norm],hp.take n):=by
  obtain⟨a1,a3,a4,a5⟩:=V.fok_all a ha;obtain⟨b1,b3,b4,b5⟩:=V.fok_all b hb;obtain⟨c1,c3,c4,c5⟩:=V.fok_all c hc
  simp only[V.over_norm]at a4 b4 c4
  simp only[AY,V.unmut,DX,a1,b1,c1,V.norm,Ac,V.clean,AX,a3,b3,c3,V.over,Dj,a4,b4,c4,Bool.and_self,if_true]
@[go_sem] theorem AJf (n:Nat) (hp:List V):AY n hp (V.tup [])=some (.tup [],hp.take n):=(rfl)
@[go_sem] theorem AI0 {v:V} (h:v.fok=true):v.okE=true:=(V.fok_all v h).2.2.2
@[go_sem] theorem AHb (n:Nat) (hp:List V) (e:TypeId) (xs:List V):Zl n hp (.lst e .own xs)=some (.lst e .own xs,hp.take n):=(rfl)
@[go_sem] theorem AHc (n:Nat) (hp:List V) (e:TypeId) (xs:List V):Zl n hp (.lst e .nil xs)=some (.lst e .nil xs,hp.take n):=(rfl)
@[go_sem] theorem AKC (a:V) (l:List V):ext (.tup (a::l)) 0=some a:=(rfl)
@[go_sem] theorem AKD (a b:V) (l:List V):ext (.tup (a::b::l)) 1=some b:=(rfl)
@[go_sem] theorem AKE (a b c:V) (l:List V):ext (.tup (a::b::c::l)) 2=some c:=(rfl)
@[go_sem] theorem AKF (a b c d:V) (l:List V):ext (.tup (a::b::c::d::l)) 3=some d:=(rfl)
@[go_sem] theorem AJg (a:V) (l:List V):PE (.tup (a::l)) 0=some a.weak:=(rfl)
@[go_sem] theorem AJh (a b:V) (l:List V):PE (.tup (a::b::l)) 1=some b.weak:=(rfl)
@[go_sem] theorem AJi (a b c:V) (l:List V):PE (.tup (a::b::c::l)) 2=some c.weak:=(rfl)
@[go_sem] theorem AKG (b:Bool):tyB (.bool b)=true:=(rfl)
@[go_sem] theorem AKH (k:IntKind) (n:Int):Va k (.int k n)=true:=by simp[Va]
@[go_sem] theorem AKI (s:List UInt8):tyS (.str s)=true:=(rfl)
@[go_sem] theorem AEg (u:TypeId) (fs:List V):Gy u (.agg u fs)=true:=by simp[Gy]
@[go_sem] theorem AKJ (e:TypeId) (f:Fl) (xs:List V):tyL e (.lst e f xs)=true:=by simp[tyL]
@[go_sem] theorem AKK (id:Nat) (p:List Nat) (t:TypeId):tyP (.ref id p t)=true:=(rfl)
@[go_sem] theorem AKL (f:FuncId) (cs:List V):tyF (.clo f cs)=true:=(rfl)
attribute [go_sem] b_lss b_leq b_gtr b_geq b_eql b_neq s_eql s_neq
@[go_sem] theorem AJj (b:Bool):un .not (.bool b)=some (.bool (!b)):=(rfl)
@[go_sem high] theorem AKy {a:Nat} (h:a+1<4611686018427387904):AL .add (.int .i64 (a:Int)) (.int .i64 1)=some (.int .i64 ((a+1:Nat):Int)):=by
  rw[DZ,Ad (by omega) (by omega)];congr 2
@[go_sem high] theorem AKz {a b:Nat} (h:a+b<4611686018427387904):AL .add (.int .i64 (a:Int)) (.int .i64 (b:Int))=some (.int .i64 ((a+b:Nat):Int)):=by
  rw[DZ,Ad (by omega) (by omega)];congr 2
@[go_sem high] theorem AK0 {a:Nat} (h:1≤a) (h2:a<4611686018427387904):AL .sub (.int .i64 (a:Int)) (.int .i64 1)=some (.int .i64 ((a-1:Nat):Int)):=by
  rw[Lr,Ad (by omega) (by omega)];congr 2;omega
@[go_sem high] theorem AK1 {a b:Nat} (h:b≤a) (h2:a<4611686018427387904):AL .sub (.int .i64 (a:Int)) (.int .i64 (b:Int))=some (.int .i64 ((a-b:Nat):Int)):=by
  rw[Lr,Ad (by omega) (by omega)];congr 2;omega
@[go_sem high] theorem AKM {a:Nat} (h:a+1<18446744073709551616):AL .add (.int .u64 (a:Int)) (.int .u64 1)=some (.int .u64 ((a+1:Nat):Int)):=by
  rw[DZ,ET (by omega) (by omega)];congr 2
@[go_sem] theorem AKN {a b:Int} (h1: -9223372036854775808≤a+b) (h2:a+b<9223372036854775808):AL .add (.int .i64 a) (.int .i64 b)=some (.int .i64 (a+b)):=by rw[DZ,Ad h1 h2]
@[go_sem] theorem AKO {a b:Int} (h1: -9223372036854775808≤a-b) (h2:a-b<9223372036854775808):AL .sub (.int .i64 a) (.int .i64 b)=some (.int .i64 (a-b)):=by rw[Lr,Ad h1 h2]
@[go_sem] theorem AKP {a b:Int} (h1: -9223372036854775808≤a*b) (h2:a*b<9223372036854775808):AL .mul (.int .i64 a) (.int .i64 b)=some (.int .i64 (a*b)):=by rw[ABa,Ad h1 h2]
theorem QT (a b:Nat):(a:Int).tdiv b=((a/b:Nat):Int)∧(a:Int).tmod b=((a%b:Nat):Int):=⟨rfl,rfl⟩
@[go_sem] theorem AK2 {a b:Nat} (h:0<b) (k:IntKind):AL .rem (.int k (a:Int)) (.int k (b:Int))=some (.int k ((a%b:Nat):Int)):=by
  rw[AHC _ _ _ (by omega),(QT a b).2]
@[go_sem] theorem AK3 {a:Nat} (h2:a<9223372036854775808):AL .quo (.int .i64 (a:Int)) (.int .i64 2)=some (.int .i64 ((a/2:Nat):Int)):=by
  rw[Ls _ _ _ (by omega),show(a:Int).tdiv 2=((a/2:Nat):Int)from rfl,Ad (by omega) (by omega)]
@[go_sem] theorem AK4 {a b:Nat} (h:0<b) (h2:a<9223372036854775808):AL .quo (.int .i64 (a:Int)) (.int .i64 (b:Int))=some (.int .i64 ((a/b:Nat):Int)):=by
  have:=Nat.div_le_self a b
  rw[Ls _ _ _ (by omega),(QT a b).1]
  generalize a/b=q at*
  rw[Ad (by omega) (by omega)]
@[go_sem high] theorem AKQ (a:List UInt8):AL .eql (.str a) (.str a)=some (.bool true):=by rw[s_eql,decide_eq_true rfl]
@[go_sem high] theorem AKR (a:List UInt8):AL .neq (.str a) (.str a)=some (.bool false):=by rw[s_neq];simp
@[go_sem high] theorem AKS (k:IntKind) (a:Int):AL .eql (.int k a) (.int k a)=some (.bool true):=by rw[b_eql,decide_eq_true rfl]
@[go_sem high] theorem AKT (k:IntKind) (a:Int):AL .neq (.int k a) (.int k a)=some (.bool false):=by rw[b_neq];simp
@[go_sem] theorem AKU {a b:List UInt8} (h:a.length+b.length≤4611686018427387904):AL .add (.str a) (.str b)=some (.str (a++b)):=QS a b h
theorem cvI_i64 {k:IntKind} {n:Int} (h1: -9223372036854775808≤n) (h2:n<9223372036854775808):cvI .i64 (.int k n)=some (.int .i64 n):=by rw[cvI,Ad h1 h2]
theorem cvI_u64 {k:IntKind} {n:Int} (h1:0≤n) (h2:n<18446744073709551616):cvI .u64 (.int k n)=some (.int .u64 n):=by rw[cvI,ET h1 h2]
theorem cvI_u8 {k:IntKind} {n:Int} (h1:0≤n) (h2:n<256):cvI .u8 (.int k n)=some (.int .u8 n):=by rw[cvI,Xn h1 h2]
attribute [go_sem] cvI_i64 cvI_u64 cvI_u8
@[go_sem] theorem AKV (s:List UInt8):cvS (.str s)=some (.str s):=(rfl)
@[go_sem] theorem AKW {s:List UInt8} (h:s.length≤2147483648) (e:TypeId):cvB e (.str s)=some (.lst e .own (BI s)):=if_pos h
theorem JF:∀s:List UInt8,FQ (BI s)=some s
 |[]=>rfl
 |x::s=>by
  have:BI (x::s)= .int .u8 x.toNat::BI s:=(rfl)
  rw[this]
  simp only[FQ,Vd,JF s,Int.toNat_natCast,UInt8.ofNat_toNat,Option.bind_some,Option.map_some]
@[go_sem] theorem AKX (h:List V) (e:TypeId) (f:Fl) (s:List UInt8):cvT h (.lst e f (BI s))=some (.str s):=by simp only[cvT,BB,Option.bind_some,JF,Option.map_some]
@[go_sem] theorem AJk (s ft:TypeId) (f id:Nat) (p:List Nat):fA s ft f (.ref id p s)=some (.ref id (p++[f]) ft):=by simp[fA]
@[go_sem] theorem AJl (s ft:TypeId) (f:Nat) (u:TypeId) (xs:List V):fA s ft f (.rop s (.agg u xs))=(xs[f]?).map (.rop ft):=by simp[fA]
@[go_sem] theorem AJm (u:TypeId) (f:Nat) (hs:Bool) (xs:List V):fV u f hs (.agg u xs)=(xs[f]?).map (cpB hs):=by simp[fV]
@[go_sem] theorem AKY (v:V):cpB false v=v:=(rfl)
@[go_sem] theorem AKZ (v:V):cpB true v=v.weak:=(rfl)
@[go_sem] theorem AKa (v:List V):nlB false v=v:=(rfl)
@[go_sem] theorem AKb (v:List V):nlB true v=Ac v:=(rfl)
@[go_sem] theorem AHd (h:List V) (t:TypeId) (v:V):A8 h t (.rop t v)=some v:=by simp[A8]
@[go_sem] theorem AHe (h:List V) (t:TypeId) (v:V):D7 h t (.rop t v)=some v.weak:=by simp[D7,A8]
@[go_sem] theorem AFo (h:List V) (t:TypeId) (id:Nat):A8 h t (.ref id [] t)=h[id]?:=by
  simp only[A8,if_true,rd];cases h[id]?<;>rfl
theorem ldS_r0 (h:List V) (t:TypeId) (id:Nat):D7 h t (.ref id [] t)=(h[id]?).map V.weak:=by rw[D7,AFo]
@[go_sem] theorem AFp (h:List V) (t:TypeId) (id i:Nat):A8 h t (.ref id [i] t)=(h[id]?).bind fun v=>V.at [i] v:=by simp only[A8,if_true,rd]
@[go_sem] theorem AJn (h:List V) (t:TypeId) (id i:Nat):D7 h t (.ref id [i] t)=((h[id]?).bind fun v=>V.at [i] v).map V.weak:=by rw[D7,AFp]
@[go_sem] theorem AK5 (u i:Nat) (fs:List V):V.at [i] (.agg u fs)=fs[i]?:=by simp only[V.at];cases fs[i]?<;>rfl
@[go_sem] theorem AKc (u i:Nat) (fs:List V):V.at [i] (.row u fs)=fs[i]?:=by simp only[V.at];cases fs[i]?<;>rfl
attribute [go_sem] ldS_r0 List.nil_append List.cons_append List.append_assoc List.length_nil List.length_cons List.length_append List.getElem?_cons_zero List.getElem?_cons_succ Option.map_some List.length_map List.set_cons_zero List.set_cons_succ List.take_zero List.take_succ_cons List.take_nil Nat.zero_add List.length_drop List.length_take List.length_replicate
@[go_sem] theorem AFq (id:Nat) (p:List Nat) (t:TypeId):CP (.ref id p t)=some (.ref id p t):=(rfl)
@[go_sem] theorem AFr (t:TypeId) (x:V):CP (.rop t x)=some (.rop t x):=(rfl)
@[go_sem] theorem AFs (f:FuncId) (x:List V):CP (.clo f x)=some (.clo f x):=(rfl)
@[go_sem] theorem AJo {ty:V→Bool} {h:List V} {id:Nat} {v:V} (hi:id<h.length) (ht:ty v=true) (hu:v.under (id+1)=true) (t:TypeId):Ju ty t h (.ref id [] t) v=some (h.set id v):=by
  simp only[Ju,if_true,ht,hu,Bool.and_self,wr,List.getElem?_eq_getElem hi,Option.bind_some,V.upd,Option.map_some]
@[go_sem] theorem AHf {ty:V→Bool} {h:List V} {id i:Nat} {v:V} (ht:ty v=true) (hu:v.under (id+1)=true) (t:TypeId):Ju ty t h (.ref id [i] t) v=(h[id]?).bind fun r=>(V.upd [i] r v).map fun r'=>h.set id r':=by
  simp only[Ju,if_true,ht,hu,Bool.and_self,wr]
@[go_sem] theorem AKd {i:Nat} {fs:List V} (h:i<fs.length) (u:TypeId) (v:V):V.upd [i] (.agg u fs) v=some (.agg u (fs.set i v)):=by
  simp only[V.upd,List.getElem?_eq_getElem h,Option.bind_some,Option.map_some]
@[go_sem] theorem AFt {i:Nat} {fs:List V} (h:i<fs.length) (u:TypeId) (v:V):V.upd [i] (.row u fs) v=some (.row u (fs.set i v)):=by
  simp only[V.upd,List.getElem?_eq_getElem h,Option.bind_some,Option.map_some]
@[go_sem] theorem AKe (s:List UInt8):MW (.str s)=some (.int .i64 s.length):=(rfl)
@[go_sem] theorem AKf (e:TypeId) (f:Fl) (xs:List V):Jr (.lst e f xs)=some (.int .i64 xs.length):=(rfl)
@[go_sem] theorem AKg (id:Nat) (p:List Nat) (o l e:Nat):Jr (.win id p o l e)=some (.int .i64 l):=(rfl)
@[go_sem] theorem QU (e:TypeId) (f:Fl) (xs:List V) (k:IntKind) (i:Nat):D6 e (.lst e f xs) (.int k (i:Int))=(xs[i]?).map (.rop e):=by
  simp only[D6,Bz,decide_true,Bool.true_and]
  by_cases h:i<xs.length
  ·simp[h]
  ·have:xs[i]?=none:=List.getElem?_eq_none (by omega)
   simp[h,this]
@[go_sem] theorem AKh (e:TypeId) (f:Fl) (xs:List V) (k:IntKind):D6 e (.lst e f xs) (.int k 0)=(xs[0]?).map (.rop e):=QU e f xs k 0
@[go_sem] theorem AKi (e:TypeId) (f:Fl) (xs:List V) (k:IntKind):D6 e (.lst e f xs) (.int k 1)=(xs[1]?).map (.rop e):=QU e f xs k 1
@[go_sem] theorem AKj (e:TypeId) (f:Fl) (xs:List V) (k:IntKind):D6 e (.lst e f xs) (.int k 2)=(xs[2]?).map (.rop e):=QU e f xs k 2
@[go_sem] theorem AKk (e:TypeId) (f:Fl) (xs:List V) (k:IntKind):D6 e (.lst e f xs) (.int k 3)=(xs[3]?).map (.rop e):=QU e f xs k 3
@[go_sem] theorem Ue (s:List UInt8) (k:IntKind) (i:Nat):Pm (.str s) (.int k (i:Int))=(s[i]?).map fun b=> .int .u8 b.toNat:=by
  simp only[Pm,Bz]
  by_cases h:i<s.length
  ·simp[h]
  ·have:s[i]?=none:=List.getElem?_eq_none (by omega)
   simp[h,this]
@[go_sem] theorem AHg (s:List UInt8) (k:IntKind):Pm (.str s) (.int k 0)=(s[0]?).map fun b=> .int .u8 b.toNat:=Ue s k 0
@[go_sem] theorem AKl {i:Nat} {n:Nat} (h:i<n) (t u e id:Nat) (p:List Nat) (k:IntKind):ixA t u n e (.ref id p t) (.int k (i:Int))=some (.ref id (p++[i]) e):=by simp[ixA,Bz,h]
@[go_sem] theorem ABb {s:List UInt8} {i:Nat} (h:i≤s.length) (k:IntKind):UO (.str s) (some (.int k (i:Int))) none=some (.str (s.drop i)):=by simp[UO,CY,h]
@[go_sem] theorem ABc {s:List UInt8} {j:Nat} (h:j≤s.length) (k:IntKind):UO (.str s) none (some (.int k (j:Int)))=some (.str (s.take j)):=by simp[UO,CY,h]
@[go_sem] theorem Uf {s:List UInt8} {i j:Nat} (h:i≤j) (h2:j≤s.length) (k k':IntKind):UO (.str s) (some (.int k (i:Int))) (some (.int k' (j:Int)))=some (.str ((s.take j).drop i)):=by simp[UO,CY,h,h2]
@[go_sem] theorem AFu {xs:List V} {i:Nat} (h:i≤xs.length) (e:TypeId) (f:Fl) (k:IntKind):Zc e (.lst e f xs) (some (.int k (i:Int))) none none=some (.lst e f.cut (xs.drop i)):=by simp[Zc,CY,h]
@[go_sem] theorem AJp {xs:List V} {j:Nat} (h:j≤xs.length) (e:TypeId) (f:Fl) (k:IntKind):Zc e (.lst e f xs) none (some (.int k (j:Int))) none=some (.lst e f.cut (xs.take j)):=by simp[Zc,CY,h]
@[go_sem] theorem AJq {xs:List V} {j:Nat} (h:j≤xs.length) (e:TypeId) (f:Fl) (k k':IntKind):Zc e (.lst e f xs) none (some (.int k (j:Int))) (some (.int k' (j:Int)))=some (.lst e f.cut (xs.take j)):=by simp[Zc,CY,h]
@[go_sem] theorem AJr:Fl.cut .sh= .sh:=(rfl)
@[go_sem] theorem AI1:Fl.cut .own= .sh:=(rfl)
@[go_sem] theorem AI2:Fl.cut .nil= .nil:=(rfl)
@[go_sem] theorem AKm (t u n e id:Nat) (p:List Nat):slA t u n e (.ref id p t) none none none=some (.win id p 0 n e):=by simp[slA,CY]
@[go_sem] theorem AK6 {α:Type} (x:α):ck [] x=some x:=(rfl)
@[go_sem] theorem AK7 {α:Type} {b:Bool} (h:b=true) (bs:List Bool) (x:α):ck (b::bs) x=ck bs x:=by rw[ck,if_pos h]
@[go_sem] theorem AKn {xs:List V} (h:AX xs=true) (e:TypeId) (hs:Bool):Zd e hs (some xs)=some (.lst e .own (nlB hs xs)):=by simp[Zd,h]
@[go_sem] theorem AEh (h:List V) (e:TypeId) (f:Fl) (xs:List V):BB h (.lst e f xs)=some xs:=(rfl)
@[go_sem] theorem AI3 {h:List V} {g:Fl} {ys:List V} {ty:V→Bool} {xs:List V} (hc:AX ys=true) (ht:ys.all ty=true) (hl:xs.length+ys.length≤2147483648) (e e':TypeId) (hs:Bool):
 XV e ty hs h (.lst e .own xs) (.lst e' g ys)=some (.lst e .own (xs++nlB hs ys)):=by
  have hy:BB h (.lst e' g ys)=some ys:=rfl
  simp[XV,hy,hc,ht,FP,hl]
theorem ADQ {h:List V} {g:Fl} {ys:List V} {ty:V→Bool} {xs:List V} (hc:AX ys=true) (ht:ys.all ty=true) (hl:xs.length+ys.length≤2147483648) (hn:ys.isEmpty=false) (e e':TypeId) (hs:Bool):
 XV e ty hs h (.lst e .nil xs) (.lst e' g ys)=some (.lst e .own (xs++nlB hs ys)):=by
 have hy:BB h (.lst e' g ys)=some ys:=rfl
 simp[XV,hy,hc,ht,FP,hl,hn]
@[go_sem] theorem AHh {h:List V} {g:Fl} {y:V} {ys:List V} {ty:V→Bool} {xs:List V} (hc:AX (y::ys)=true) (ht:(y::ys).all ty=true) (hl:xs.length+(y::ys).length≤2147483648) (e e':TypeId) (hs:Bool):
 XV e ty hs h (.lst e .nil xs) (.lst e' g (y::ys))=some (.lst e .own (xs++nlB hs (y::ys))):=ADQ hc ht hl rfl e e' hs
@[go_sem] theorem AHi {h:List V} {g:Fl} {ty:V→Bool} (e e':TypeId) (hs:Bool):XV e ty hs h (.lst e .nil []) (.lst e' g [])=some (.lst e .nil []):=by
  cases hs<;>simp[XV,BB,AX,FP,nlB,Ac]
@[go_sem] theorem AI4 (e e':TypeId):PY .eql (.lst e .nil []) (.lst e' .nil [])=some (.bool true):=(rfl)
@[go_sem] theorem AGr (e e':TypeId) (xs:List V):PY .eql (.lst e .non xs) (.lst e' .nil [])=some (.bool false):=by cases xs<;>rfl
@[go_sem] theorem AI5 (e e':TypeId) (x:V) (xs:List V):PY .eql (.lst e .sh (x::xs)) (.lst e' .nil [])=some (.bool false):=(rfl)
@[go_sem] theorem AJs:Fl.wk .non= .non:=(rfl)
theorem all_map {α:Type} {c:α→V} {ty:V→Bool} (h:∀a,ty (c a)=true) (l:List α):(l.map c).all ty=true:=by simp[h]
@[go_sem] theorem AHj:AX []=true:=(rfl)
@[go_sem] theorem AHk (x:V) (xs:List V):AX (x::xs)=(x.clean&&AX xs):=(rfl)
@[go_sem] theorem AI6 (b:Bool):V.noOwn (.bool b)=true:=(rfl)
@[go_sem] theorem AI7 (k:IntKind) (n:Int):V.noOwn (.int k n)=true:=(rfl)
@[go_sem] theorem AHl {v:V} (h:v.pl=true):v.noOwn=true:=(V.PF v h).noOwn
@[go_sem] theorem AJt {ty:V→Bool} {x y:V} {b:Bool} (hx:ty x=true) (hy:ty y=true) (h:Ll x y=some b):eqT ty .eql x y=some (.bool b):=by simp[eqT,hx,hy,h]
theorem eqT_bool (a b:Bool):eqT tyB .eql (.bool a) (.bool b)=some (.bool (a==b)):=by simp[eqT,tyB,Ll]
theorem eqT_nbool (a b:Bool):eqT tyB .neq (.bool a) (.bool b)=some (.bool (!(a==b))):=by simp[eqT,tyB,Ll]
attribute [go_sem] eqT_bool eqT_nbool
@[go_sem] theorem AJu (id id' k:Nat) (t t':TypeId):AC6 (.ref id [] t) k (.ref id' [k] t')=true:=by simp[AC6]
end AM
end
end Go.Proofs.YtaghnpjlhmgioaaDoor
