/-
  Part of the proof of a statement about the given program: an abstract machine over its code, the simulation, its functions' equations, what they compute.
-/
import Derived.Attr
import Derived.Test.YtiegkempfolgcaaGreatDoorMg3
import Derived.Test.YtiegkempfolgcaaGreatDoorMg7
set_option linter.unusedVariables false
set_option linter.unusedSimpArgs false
set_option linter.unusedSectionVars false
noncomputable section
namespace Go.Proofs.YtiegkempfolgcaaGreatDoor
section
namespace AM
open Go
@[congr] theorem ATr {A B:Type} {x y:Option A} (h:x=y) (K:A→Option B):x.bind K=y.bind K:=by rw[h]
@[congr] theorem AUu {B:Type} {x y:V} (h:x=y) (a b:Option B):V.ite x a b=V.ite y a b:=by rw[h]
attribute [go_sem] Option.bind_some
@[go_sem] theorem CW {B:Type} (a b:Option B):V.ite (.bool true) a b=a:=(rfl)
@[go_sem] theorem CY {B:Type} (a b:Option B):V.ite (.bool false) a b=b:=(rfl)
@[go_sem] theorem ARo {B:Type} {p:Bool} (h:p=true) (a b:Option B):V.ite (.bool p) a b=a:=by rw[h];rfl
@[go_sem] theorem ASw {B:Type} {p:Bool} (h:¬p=true) (a b:Option B):V.ite (.bool p) a b=b:=by cases p<;>first|rfl|exact absurd rfl h
@[go_sem] theorem BH {B:Type} {p:Prop} [Decidable p] (h:p) (a b:Option B):V.ite (.bool (decide p)) a b=a:=by rw[decide_eq_true h];rfl
@[go_sem] theorem Az {B:Type} {p:Prop} [Decidable p] (h:¬p) (a b:Option B):V.ite (.bool (decide p)) a b=b:=by rw[decide_eq_false h];rfl
@[go_sem] theorem ARp {B:Type} (p:Bool) (a b:Option B):V.ite (.bool (!p)) a b=V.ite (.bool p) b a:=by cases p<;>rfl
theorem AL {α β:Type} (k:α) (f:α→β):jn k f=f k:=(rfl)
mutual
def V.pl:V→Bool
 | .bool _=>true
 | .int _ _=>true
 | .str _=>true
 | .nilp=>true
 | .nilf=>true
 | .nili=>true
 | .ifv=>true
 | .agg _ fs=>G5 fs
 | .lst _ .sh xs=>G5 xs
 |_=>false
 termination_by structural x=>x
def G5:List V→Bool
 |[]=>true
 |x::xs=>x.pl&&G5 xs
 termination_by structural x=>x
end
@[go_sem] theorem pl_bool (b:Bool):V.pl (.bool b)=true:=(rfl)
@[go_sem] theorem pl_int (k:IntKind) (n:Int):V.pl (.int k n)=true:=(rfl)
@[go_sem] theorem ASx (s:List UInt8):V.pl (.str s)=true:=(rfl)
@[go_sem] theorem ARq:V.pl .nilp=true:=(rfl)
@[go_sem] theorem ARr:V.pl .nili=true:=(rfl)
@[go_sem] theorem ASy (u:TypeId) (fs:List V):V.pl (.agg u fs)=G5 fs:=(rfl)
@[go_sem] theorem ASz (e:TypeId) (xs:List V):V.pl (.lst e .sh xs)=G5 xs:=(rfl)
@[go_sem] theorem ARs:G5 []=true:=(rfl)
@[go_sem] theorem AG9 (x:V) (xs:List V):G5 (x::xs)=(x.pl&&G5 xs):=(rfl)
theorem AKO (xs:List V):G5 xs=xs.all V.pl:=by
 induction xs with
 |nil=>rfl
 |cons x xs ih=>simp only[G5,List.all_cons,ih]
theorem Dc {α:Type} {c:α→V} (h:∀a,(c a).pl=true) (l:List α):G5 (l.map c)=true:=by
 rw[AKO];simp[h]
theorem UH (l:List UInt8):G5 (bytesOf l)=true:=Dc (fun _=>rfl) l
structure PF (v:V):Prop where
 weak:v.weak=v
 norm:v.norm=v
 clean:v.clean=true
 reify:∀h,v.reify h=v
 unmut:∀h,v.unmut h=v
 under:∀n,v.under n=true
 over:∀n,v.over n=true
 away:∀n,v.away n=true
 noOwn:v.noOwn=true
structure PFL (v:List V):Prop where
 weak:Es v=v
 norm:AU v=v
 clean:AV v=true
 reify:∀h,AA h v=v
 unmut:∀h,CZ h v=v
 under:∀n,Ac n v=true
 over:∀n,DK n v=true
 away:∀n,BP n v=true
 noOwn:BF v=true
mutual
theorem V.PF:∀v:V,v.pl=true→PF v
 | .bool _,_=>⟨rfl,rfl,rfl,fun _=>rfl,fun _=>rfl,fun _=>rfl,fun _=>rfl,fun _=>rfl,rfl⟩
 | .int _ _,_=>⟨rfl,rfl,rfl,fun _=>rfl,fun _=>rfl,fun _=>rfl,fun _=>rfl,fun _=>rfl,rfl⟩
 | .str _,_=>⟨rfl,rfl,rfl,fun _=>rfl,fun _=>rfl,fun _=>rfl,fun _=>rfl,fun _=>rfl,rfl⟩
 | .nilp,_=>⟨rfl,rfl,rfl,fun _=>rfl,fun _=>rfl,fun _=>rfl,fun _=>rfl,fun _=>rfl,rfl⟩
 | .nilf,_=>⟨rfl,rfl,rfl,fun _=>rfl,fun _=>rfl,fun _=>rfl,fun _=>rfl,fun _=>rfl,rfl⟩
 | .nili,_=>⟨rfl,rfl,rfl,fun _=>rfl,fun _=>rfl,fun _=>rfl,fun _=>rfl,fun _=>rfl,rfl⟩
 | .ifv,_=>⟨rfl,rfl,rfl,fun _=>rfl,fun _=>rfl,fun _=>rfl,fun _=>rfl,fun _=>rfl,rfl⟩
 | .agg u fs,h=>by
   have p:=V.PFL fs h
   exact⟨by simp only[V.weak,p.weak],by simp only[V.norm,p.norm],by simp only[V.clean,p.clean],fun h=>by simp only[V.reify,p.reify],fun h=>by simp only[V.unmut,p.unmut],fun n=>by simp only[V.under,p.under],fun n=>by simp only[V.over,p.over],fun n=>by simp only[V.away,p.away],by simp only[V.noOwn,p.noOwn]⟩
 | .lst e .sh xs,h=>⟨rfl,rfl,rfl,fun _=>rfl,fun _=>rfl,fun _=>rfl,fun _=>rfl,fun _=>rfl,rfl⟩
 | .lst _ .own _,h=>by cases h
 | .lst _ .nil _,h=>by cases h
 | .lst _ .lent _,h=>by cases h
 | .row _ _,h=>by cases h
 | .win _ _ _ _ _,h=>by cases h
 | .ref _ _ _,h=>by cases h
 | .rop _ _,h=>by cases h
 | .clo _ _,h=>by cases h
 | .tup _,h=>by cases h
 | .undef,h=>by cases h
theorem V.PFL:∀v:List V,G5 v=true→PFL v
 |[],_=>⟨rfl,rfl,rfl,fun _=>rfl,fun _=>rfl,fun _=>rfl,fun _=>rfl,fun _=>rfl,rfl⟩
 |x::xs,h=>by
  simp only[G5,Bool.and_eq_true]at h
  have p:=V.PF x h.1;have q:=V.PFL xs h.2
  exact⟨by simp only[Es,p.weak,q.weak],by simp only[AU,p.norm,q.norm],by simp only[AV,p.clean,q.clean,Bool.and_self],fun h=>by simp only[AA,p.reify,q.reify],fun h=>by simp only[CZ,p.unmut,q.unmut],
   fun n=>by simp only[Ac,p.under,q.under,Bool.and_self],fun n=>by simp only[DK,p.over,q.over,Bool.and_self],fun n=>by simp only[BP,p.away,q.away,Bool.and_self],by simp only[BF,p.noOwn,q.noOwn,Bool.and_self]⟩
end
@[go_sem] theorem ARt {v:V} (h:v.pl=true):v.weak=v:=(V.PF v h).weak
@[go_sem] theorem ARu {v:V} (h:v.pl=true):v.norm=v:=(V.PF v h).norm
@[go_sem] theorem AQJ {v:V} (h:v.pl=true):v.clean=true:=(V.PF v h).clean
@[go_sem] theorem AQK {v:V} (h:v.pl=true) (hp:List V):v.reify hp=v:=(V.PF v h).reify hp
@[go_sem] theorem AQL {v:V} (h:v.pl=true) (hp:List V):v.unmut hp=v:=(V.PF v h).unmut hp
@[go_sem] theorem AQM {v:V} (h:v.pl=true) (n:Nat):v.under n=true:=(V.PF v h).under n
@[go_sem] theorem ARv {v:V} (h:v.pl=true) (n:Nat):v.over n=true:=(V.PF v h).over n
@[go_sem] theorem ADn {v:List V} (h:G5 v=true):AV v=true:=(V.PFL v h).clean
@[go_sem] theorem AHA {v:List V} (h:G5 v=true):AU v=v:=(V.PFL v h).norm
@[go_sem] theorem APO {v:List V} (h:G5 v=true) (hp:List V):AA hp v=v:=(V.PFL v h).reify hp
def Fl.wk:Fl→Fl| .own=> .sh|f=>f
def Fl.rf:Fl→Fl| .lent=> .lent|_=> .sh
@[go_sem] theorem ATs:Fl.wk .sh= .sh:=(rfl)
@[go_sem] theorem EM:Fl.wk .own= .sh:=(rfl)
@[go_sem] theorem EN:Fl.wk .nil= .nil:=(rfl)
@[go_sem] theorem ATt (f:Fl):f.wk.wk=f.wk:=by cases f<;>rfl
@[go_sem] theorem ATu (f:Fl):f.wk.rf=f.rf:=by cases f<;>rfl
@[go_sem] theorem ATv (f:Fl):f.rf.rf=f.rf:=by cases f<;>rfl
@[go_sem] theorem ATw (f:Fl):f.rf.wk=f.rf:=by cases f<;>rfl
@[go_sem] theorem ATx:Fl.rf .sh= .sh:=(rfl)
@[go_sem] theorem AS0:Fl.rf .own= .sh:=(rfl)
@[go_sem] theorem AS1:Fl.rf .nil= .sh:=(rfl)
@[go_sem] theorem ARw:Fl.rf .lent= .lent:=(rfl)
@[go_sem] theorem ADo (e:TypeId) (f:Fl) (xs:List V):V.weak (.lst e f xs)= .lst e f.wk xs:=by cases f<;>rfl
@[go_sem] theorem APP {xs:List V} (h:G5 xs=true) (hp:List V) (e:TypeId) (f:Fl):V.reify hp (.lst e f xs)= .lst e f.rf xs:=by
  cases f<;>simp only[V.reify,Fl.rf,(V.PFL xs h).reify]
@[go_sem] theorem AQN (e:TypeId) (f:Fl) (xs:List V):V.norm (.lst e f xs)= .lst e f.rf xs:=by cases f<;>rfl
@[go_sem] theorem AQO (h:List V) (x:V) (xs:List V):AA h (x::xs)=x.reify h::AA h xs:=(rfl)
@[go_sem] theorem AQP (h:List V):AA h []=[]:=(rfl)
@[go_sem] theorem ARx (x:V) (xs:List V):AU (x::xs)=x.norm::AU xs:=(rfl)
@[go_sem] theorem ARy:AU []=[]:=(rfl)
@[go_sem] theorem AQQ (id:Nat) (p:List Nat) (t:TypeId):V.norm (.ref id p t)= .ref id p t:=(rfl)
@[go_sem] theorem AQR (id:Nat) (p:List Nat) (o l e:Nat):V.norm (.win id p o l e)= .win id p o l e:=(rfl)
@[go_sem] theorem AQS (t:TypeId) (v:V):V.norm (.rop t v)= .rop t v:=(rfl)
@[go_sem] theorem AQT (f:FuncId) (cs:List V):V.norm (.clo f cs)= .clo f cs:=(rfl)
@[go_sem] theorem APQ (h:List V) (f:FuncId) (cs:List V):V.reify h (.clo f cs)= .clo f (AA h cs):=(rfl)
@[go_sem] theorem APR (h:List V) (u:TypeId) (fs:List V):V.reify h (.agg u fs)= .agg u (AA h fs):=(rfl)
@[go_sem] theorem AQU (u:TypeId) (fs:List V):V.weak (.agg u fs)= .agg u (Es fs):=(rfl)
@[go_sem] theorem ARz (x:V) (xs:List V):Es (x::xs)=x.weak::Es xs:=(rfl)
@[go_sem] theorem AR0:Es []=[]:=(rfl)
@[go_sem] theorem APS (n:Nat) (u:TypeId) (fs:List V):V.under n (.agg u fs)=Ac n fs:=(rfl)
@[go_sem] theorem AQV (n:Nat) (x:V) (xs:List V):Ac n (x::xs)=(x.under n&&Ac n xs):=(rfl)
@[go_sem] theorem AQW (n:Nat):Ac n []=true:=(rfl)
@[go_sem] theorem APT {f:Fl} (hf:f≠ .lent) (n:Nat) (e:TypeId) (xs:List V):V.under n (.lst e f xs)=true:=by cases f<;>first|rfl|exact absurd rfl hf
@[go_sem] theorem APU (n:Nat) (e:TypeId) (xs:List V):V.under n (.lst e .own xs)=true:=(rfl)
@[go_sem] theorem APV (n:Nat) (e:TypeId) (xs:List V):V.under n (.lst e .nil xs)=true:=(rfl)
@[go_sem] theorem AQX (n:Nat) (e:TypeId) (xs:List V):V.under n (.lst e .sh xs)=true:=(rfl)
@[go_sem] theorem UI {id n:Nat} (h:id<n) (p:List Nat) (t:TypeId):V.under n (.ref id p t)=true:=by simp[V.under,h]
@[go_sem] theorem APW {id n:Nat} (h:id<n) (p:List Nat) (o l e:Nat):V.under n (.win id p o l e)=true:=by simp[V.under,h]
theorem c0:((0:Nat):Int)=0:=(rfl)
theorem c1:((1:Nat):Int)=1:=(rfl)
@[go_sem] theorem APX (n:Nat) (f:FuncId) (xs:List V):V.under n (.clo f xs)=Ac n xs:=(rfl)
@[go_sem] theorem APY (e:TypeId) (xs:List V):V.clean (.lst e .own xs)=true:=(rfl)
@[go_sem] theorem clean_nil (e:TypeId) (xs:List V):V.clean (.lst e .nil xs)=true:=(rfl)
attribute [go_sem] Bool.and_self Bool.and_true Bool.true_and if_true
@[go_sem] theorem all_nil (ty:V→Bool):List.all [] ty=true:=(rfl)
@[go_sem] theorem all_cons (ty:V→Bool) (x:V) (xs:List V):List.all (x::xs) ty=(ty x&&List.all xs ty):=(rfl)
@[go_sem] theorem AR1 {v:V} (h:v.pl=true) (n:Nat) (hp:List V):AQ n hp v=some (v,hp.take n):=by
  have p:=V.PF v h
  simp only[AQ,p.unmut,p.norm,p.clean,p.over,Bool.and_self,if_true]
@[go_sem] theorem AQY (n:Nat) (hp:List V) (e:TypeId) (xs:List V):AQ n hp (.lst e .own xs)=some (.lst e .sh xs,hp.take n):=(rfl)
@[go_sem] theorem AQZ (n:Nat) (hp:List V) (e:TypeId) (xs:List V):AQ n hp (.lst e .nil xs)=some (.lst e .sh xs,hp.take n):=(rfl)
@[go_sem] theorem AR2 (n:Nat) (hp:List V) (e:TypeId) (xs:List V):AQ n hp (.lst e .sh xs)=some (.lst e .sh xs,hp.take n):=(rfl)
mutual
def V.fok:V→Bool
 | .bool _=>true
 | .int _ _=>true
 | .str _=>true
 | .nilp=>true
 | .nilf=>true
 | .nili=>true
 | .ifv=>true
 | .agg _ fs=>Qe fs
 | .lst _ .own _=>true
 | .lst _ .nil _=>true
 | .lst _ .sh _=>true
 |_=>false
 termination_by structural x=>x
def Qe:List V→Bool
 |[]=>true
 |x::xs=>x.fok&&Qe xs
 termination_by structural x=>x
end
@[go_sem] theorem AR3 (u:TypeId) (fs:List V):V.fok (.agg u fs)=Qe fs:=(rfl)
@[go_sem] theorem AS2:Qe []=true:=(rfl)
@[go_sem] theorem AS3 (x:V) (xs:List V):Qe (x::xs)=(x.fok&&Qe xs):=(rfl)
@[go_sem] theorem AR4 (e:TypeId) (xs:List V):V.fok (.lst e .own xs)=true:=(rfl)
@[go_sem] theorem AR5 (e:TypeId) (xs:List V):V.fok (.lst e .nil xs)=true:=(rfl)
@[go_sem] theorem AS4 (e:TypeId) (xs:List V):V.fok (.lst e .sh xs)=true:=(rfl)
@[go_sem] theorem AQa (u:TypeId) (fs:List V):V.norm (.agg u fs)= .agg u (AU fs):=(rfl)
mutual
theorem V.fok_pl':∀v:V,v.pl=true→v.fok=true
 | .bool _,_=>rfl
 | .int _ _,_=>rfl
 | .str _,_=>rfl
 | .nilp,_=>rfl
 | .nilf,_=>rfl
 | .nili,_=>rfl
 | .ifv,_=>rfl
 | .agg _ fs,h=>YJ fs h
 | .lst _ .sh _,_=>rfl
 | .lst _ .own _,h=>by cases h
 | .lst _ .nil _,h=>by cases h
 | .lst _ .lent _,h=>by cases h
 | .row _ _,h=>by cases h
 | .win _ _ _ _ _,h=>by cases h
 | .ref _ _ _,h=>by cases h
 | .rop _ _,h=>by cases h
 | .clo _ _,h=>by cases h
 | .tup _,h=>by cases h
 | .undef,h=>by cases h
theorem YJ:∀v:List V,G5 v=true→Qe v=true
 |[],_=>rfl
 |x::xs,h=>by
  simp only[G5,Bool.and_eq_true]at h
  simp only[Qe,V.fok_pl' x h.1,YJ xs h.2,Bool.and_self]
end
@[go_sem] theorem AS5 {v:V} (h:v.pl=true):v.fok=true:=V.fok_pl' v h
mutual
theorem V.fok_all:∀v:V,v.fok=true→(∀hp,v.unmut hp=v)∧v.norm.clean=true∧(∀n,v.norm.over n=true)∧v.okE=true
 | .bool _,_=>⟨fun _=>rfl,rfl,fun _=>rfl,rfl⟩
 | .int _ _,_=>⟨fun _=>rfl,rfl,fun _=>rfl,rfl⟩
 | .str _,_=>⟨fun _=>rfl,rfl,fun _=>rfl,rfl⟩
 | .nilp,_=>⟨fun _=>rfl,rfl,fun _=>rfl,rfl⟩
 | .nilf,_=>⟨fun _=>rfl,rfl,fun _=>rfl,rfl⟩
 | .nili,_=>⟨fun _=>rfl,rfl,fun _=>rfl,rfl⟩
 | .ifv,_=>⟨fun _=>rfl,rfl,fun _=>rfl,rfl⟩
 | .agg u fs,h=>by
   obtain⟨a,b,c⟩:=Qg fs h
   exact⟨fun hp=>by simp only[V.unmut,a],by simp only[V.norm,V.clean,b],fun n=>by simp only[V.norm,V.over,c],rfl⟩
 | .lst _ .own _,_=>⟨fun _=>rfl,rfl,fun _=>rfl,rfl⟩
 | .lst _ .nil _,_=>⟨fun _=>rfl,rfl,fun _=>rfl,rfl⟩
 | .lst _ .sh _,_=>⟨fun _=>rfl,rfl,fun _=>rfl,rfl⟩
 | .lst _ .lent _,h=>by cases h
 | .row _ _,h=>by cases h
 | .win _ _ _ _ _,h=>by cases h
 | .ref _ _ _,h=>by cases h
 | .rop _ _,h=>by cases h
 | .clo _ _,h=>by cases h
 | .tup _,h=>by cases h
 | .undef,h=>by cases h
theorem Qg:∀v:List V,Qe v=true→(∀hp,CZ hp v=v)∧AV (AU v)=true∧(∀n,DK n (AU v)=true)
 |[],_=>⟨fun _=>rfl,rfl,fun _=>rfl⟩
 |x::xs,h=>by
  simp only[Qe,Bool.and_eq_true]at h
  obtain⟨a,b,c,_⟩:=V.fok_all x h.1;obtain⟨a',b',c'⟩:=Qg xs h.2
  exact⟨fun hp=>by simp only[CZ,a,a'],by simp only[AU,AV,b,b',Bool.and_self],fun n=>by simp only[AU,DK,c,c',Bool.and_self]⟩
end
mutual
theorem V.over_norm:∀(v:V) (n:Nat),v.norm.over n=v.over n
 | .agg u fs,n=>by simp only[V.norm,V.over,FY]
 | .row u fs,n=>by simp only[V.norm,V.over,FY]
 | .tup fs,n=>by simp only[V.norm,V.over,FY]
 | .lst _ f _,n=>by cases f<;>rfl
 | .bool _,_=>rfl
 | .int _ _,_=>rfl
 | .str _,_=>rfl
 | .nilp,_=>rfl
 | .nilf,_=>rfl
 | .nili,_=>rfl
 | .ifv,_=>rfl
 | .win _ _ _ _ _,_=>rfl
 | .ref _ _ _,_=>rfl
 | .rop _ _,_=>rfl
 | .clo _ _,_=>rfl
 | .undef,_=>rfl
theorem FY:∀(v:List V) (n:Nat),DK n (AU v)=DK n v
 |[],_=>rfl
 |x::xs,n=>by simp only[AU,DK,V.over_norm x n,FY xs n]
end
@[go_sem] theorem AQb {u:TypeId} {fs:List V} (h:Qe fs=true) (n:Nat) (hp:List V):AQ n hp (.agg u fs)=some (.agg u (AU fs),hp.take n):=by
  obtain⟨a,b,c⟩:=Qg fs h
  have ov:∀n,DK n fs=true:=fun n=>by rw[←FY];exact c n
  simp only[AQ,V.unmut,a,V.norm,V.clean,b,V.over,ov,Bool.and_self,if_true]
@[go_sem] theorem AR6 {a:V} (ha:a.fok=true) (n:Nat) (hp:List V):AQ n hp (V.tup [a])=some (.tup [a.norm],hp.take n):=by
  obtain⟨a1,a3,a4,a5⟩:=V.fok_all a ha
  simp only[V.over_norm]at a4
  simp only[AQ,V.unmut,CZ,a1,V.norm,AU,V.clean,AV,a3,V.over,DK,a4,Bool.and_self,if_true]
@[go_sem] theorem AS6 {a b:V} (ha:a.fok=true) (hb:b.fok=true) (n:Nat) (hp:List V):AQ n hp (V.tup [a,b])=some (.tup [a.norm,b.norm],hp.take n):=by
  obtain⟨a1,a3,a4,a5⟩:=V.fok_all a ha;obtain⟨b1,b3,b4,b5⟩:=V.fok_all b hb
  simp only[V.over_norm]at a4 b4
  simp only[AQ,V.unmut,CZ,a1,b1,V.norm,AU,V.clean,AV,a3,b3,V.over,DK,a4,b4,Bool.and_self,if_true]
@[go_sem] theorem AS7 {a b c:V} (ha:a.fok=true) (hb:b.fok=true) (hc:c.fok=true) (n:Nat) (hp:List V):AQ n hp (V.tup [a,b,c])=some (.tup [a.norm,b.norm,c.norm],hp.take n):=by
  obtain⟨a1,a3,a4,a5⟩:=V.fok_all a ha;obtain⟨b1,b3,b4,b5⟩:=V.fok_all b hb;obtain⟨c1,c3,c4,c5⟩:=V.fok_all c hc
  simp only[V.over_norm]at a4 b4 c4
  simp only[AQ,V.unmut,CZ,a1,b1,c1,V.norm,AU,V.clean,AV,a3,b3,c3,V.over,DK,a4,b4,c4,Bool.and_self,if_true]
@[go_sem] theorem AS8 (n:Nat) (hp:List V):AQ n hp (V.tup [])=some (.tup [],hp.take n):=(rfl)
@[go_sem] theorem AR7 {v:V} (h:v.fok=true):v.okE=true:=(V.fok_all v h).2.2.2
@[go_sem] theorem AQc (n:Nat) (hp:List V) (e:TypeId) (xs:List V):Nr n hp (.lst e .own xs)=some (.lst e .own xs,hp.take n):=(rfl)
@[go_sem] theorem AQd (n:Nat) (hp:List V) (e:TypeId) (xs:List V):Nr n hp (.lst e .nil xs)=some (.lst e .nil xs,hp.take n):=(rfl)
@[go_sem] theorem ATy (a:V) (l:List V):ext (.tup (a::l)) 0=some a:=(rfl)
@[go_sem] theorem ATz (a b:V) (l:List V):ext (.tup (a::b::l)) 1=some b:=(rfl)
@[go_sem] theorem AT0 (a b c:V) (l:List V):ext (.tup (a::b::c::l)) 2=some c:=(rfl)
@[go_sem] theorem AT1 (a b c d:V) (l:List V):ext (.tup (a::b::c::d::l)) 3=some d:=(rfl)
@[go_sem] theorem AS9 (a:V) (l:List V):Fz (.tup (a::l)) 0=some a.weak:=(rfl)
@[go_sem] theorem ATA (a b:V) (l:List V):Fz (.tup (a::b::l)) 1=some b.weak:=(rfl)
@[go_sem] theorem ATB (a b c:V) (l:List V):Fz (.tup (a::b::c::l)) 2=some c.weak:=(rfl)
@[go_sem] theorem AT2 (b:Bool):tyB (.bool b)=true:=(rfl)
@[go_sem] theorem AT3 (k:IntKind) (n:Int):KW k (.int k n)=true:=by simp[KW]
@[go_sem] theorem AT4 (s:List UInt8):tyS (.str s)=true:=(rfl)
@[go_sem] theorem Ji (u:TypeId) (fs:List V):BI u (.agg u fs)=true:=by simp[BI]
@[go_sem] theorem AT5 (e:TypeId) (f:Fl) (xs:List V):IE e (.lst e f xs)=true:=by simp[IE]
@[go_sem] theorem AT6 (id:Nat) (p:List Nat) (t:TypeId):tyP (.ref id p t)=true:=(rfl)
@[go_sem] theorem AT7 (f:FuncId) (cs:List V):tyF (.clo f cs)=true:=(rfl)
attribute [go_sem] b_lss b_leq b_gtr b_geq b_eql b_neq s_eql s_neq
@[go_sem] theorem ATC (b:Bool):un .not (.bool b)=some (.bool (!b)):=(rfl)
@[go_sem high] theorem add1 {a:Nat} (h:a+1<4611686018427387904):AO .add (.int .i64 (a:Int)) (.int .i64 1)=some (.int .i64 ((a+1:Nat):Int)):=by
  rw[Dt,wrap_i64 (by omega) (by omega)];congr 2
@[go_sem high] theorem addN {a b:Nat} (h:a+b<4611686018427387904):AO .add (.int .i64 (a:Int)) (.int .i64 (b:Int))=some (.int .i64 ((a+b:Nat):Int)):=by
  rw[Dt,wrap_i64 (by omega) (by omega)];congr 2
@[go_sem high] theorem AUv {a:Nat} (h:1≤a) (h2:a<4611686018427387904):AO .sub (.int .i64 (a:Int)) (.int .i64 1)=some (.int .i64 ((a-1:Nat):Int)):=by
  rw[Jc,wrap_i64 (by omega) (by omega)];congr 2;omega
@[go_sem high] theorem AQe {a b:Nat} (h:b≤a) (h2:a<4611686018427387904):AO .sub (.int .i64 (a:Int)) (.int .i64 (b:Int))=some (.int .i64 ((a-b:Nat):Int)):=by
  rw[Jc,wrap_i64 (by omega) (by omega)];congr 2;omega
@[go_sem high] theorem AT8 {a:Nat} (h:a+1<18446744073709551616):AO .add (.int .u64 (a:Int)) (.int .u64 1)=some (.int .u64 ((a+1:Nat):Int)):=by
  rw[Dt,wrap_u64 (by omega) (by omega)];congr 2
@[go_sem] theorem AT9 {a b:Int} (h1: -9223372036854775808≤a+b) (h2:a+b<9223372036854775808):AO .add (.int .i64 a) (.int .i64 b)=some (.int .i64 (a+b)):=by rw[Dt,wrap_i64 h1 h2]
@[go_sem] theorem AUA {a b:Int} (h1: -9223372036854775808≤a-b) (h2:a-b<9223372036854775808):AO .sub (.int .i64 a) (.int .i64 b)=some (.int .i64 (a-b)):=by rw[Jc,wrap_i64 h1 h2]
@[go_sem] theorem AHB {a b:Int} (h1: -9223372036854775808≤a*b) (h2:a*b<9223372036854775808):AO .mul (.int .i64 a) (.int .i64 b)=some (.int .i64 (a*b)):=by rw[QN,wrap_i64 h1 h2]
theorem MI (a b:Nat):(a:Int).tdiv b=((a/b:Nat):Int)∧(a:Int).tmod b=((a%b:Nat):Int):=⟨rfl,rfl⟩
@[go_sem] theorem AHC {a b:Nat} (h:0<b) (k:IntKind):AO .rem (.int k (a:Int)) (.int k (b:Int))=some (.int k ((a%b:Nat):Int)):=by
  rw[NK _ _ _ (by omega),(MI a b).2]
@[go_sem] theorem AUw {a:Nat} (h2:a<9223372036854775808):AO .quo (.int .i64 (a:Int)) (.int .i64 2)=some (.int .i64 ((a/2:Nat):Int)):=by
  rw[Xy _ _ _ (by omega),show(a:Int).tdiv 2=((a/2:Nat):Int)from rfl,wrap_i64 (by omega) (by omega)]
@[go_sem] theorem AUx {a b:Nat} (h:0<b) (h2:a<9223372036854775808):AO .quo (.int .i64 (a:Int)) (.int .i64 (b:Int))=some (.int .i64 ((a/b:Nat):Int)):=by
  have:=Nat.div_le_self a b
  rw[Xy _ _ _ (by omega),(MI a b).1]
  generalize a/b=q at*
  rw[wrap_i64 (by omega) (by omega)]
@[go_sem high] theorem AUB (a:List UInt8):AO .eql (.str a) (.str a)=some (.bool true):=by rw[s_eql,decide_eq_true rfl]
@[go_sem high] theorem AUC (a:List UInt8):AO .neq (.str a) (.str a)=some (.bool false):=by rw[s_neq];simp
@[go_sem high] theorem AUD (k:IntKind) (a:Int):AO .eql (.int k a) (.int k a)=some (.bool true):=by rw[b_eql,decide_eq_true rfl]
@[go_sem high] theorem AUE (k:IntKind) (a:Int):AO .neq (.int k a) (.int k a)=some (.bool false):=by rw[b_neq];simp
@[go_sem] theorem AUF {a b:List UInt8} (h:a.length+b.length≤4611686018427387904):AO .add (.str a) (.str b)=some (.str (a++b)):=Tm a b h
theorem cvI_i64 {k:IntKind} {n:Int} (h1: -9223372036854775808≤n) (h2:n<9223372036854775808):Hz .i64 (.int k n)=some (.int .i64 n):=by rw[Hz,wrap_i64 h1 h2]
theorem cvI_u64 {k:IntKind} {n:Int} (h1:0≤n) (h2:n<18446744073709551616):Hz .u64 (.int k n)=some (.int .u64 n):=by rw[Hz,wrap_u64 h1 h2]
theorem cvI_u8 {k:IntKind} {n:Int} (h1:0≤n) (h2:n<256):Hz .u8 (.int k n)=some (.int .u8 n):=by rw[Hz,wrap_u8 h1 h2]
attribute [go_sem] cvI_i64 cvI_u64 cvI_u8
@[go_sem] theorem AUG (s:List UInt8):cvS (.str s)=some (.str s):=(rfl)
@[go_sem] theorem AUH {s:List UInt8} (h:s.length≤2147483648) (e:TypeId):cvB e (.str s)=some (.lst e .own (bytesOf s)):=if_pos h
theorem Jj:∀s:List UInt8,Eg (bytesOf s)=some s
 |[]=>rfl
 |x::s=>by
  have:bytesOf (x::s)= .int .u8 x.toNat::bytesOf s:=(rfl)
  rw[this]
  simp only[Eg,byteOf,Jj s,Int.toNat_natCast,UInt8.ofNat_toNat,Option.bind_some,Option.map_some]
@[go_sem] theorem AUI (h:List V) (e:TypeId) (f:Fl) (s:List UInt8):cvT h (.lst e f (bytesOf s))=some (.str s):=by simp only[cvT,Ad,Option.bind_some,Jj,Option.map_some]
@[go_sem] theorem ATD (s ft:TypeId) (f id:Nat) (p:List Nat):fA s ft f (.ref id p s)=some (.ref id (p++[f]) ft):=by simp[fA]
@[go_sem] theorem ATE (s ft:TypeId) (f:Nat) (u:TypeId) (xs:List V):fA s ft f (.rop s (.agg u xs))=(xs[f]?).map (.rop ft):=by simp[fA]
@[go_sem] theorem ATF (u:TypeId) (f:Nat) (hs:Bool) (xs:List V):fV u f hs (.agg u xs)=(xs[f]?).map (cpB hs):=by simp[fV]
@[go_sem] theorem AUJ (v:V):cpB false v=v:=(rfl)
@[go_sem] theorem AUK (v:V):cpB true v=v.weak:=(rfl)
@[go_sem] theorem AQf (v:List V):nlB false v=v:=(rfl)
@[go_sem] theorem AUL (v:List V):nlB true v=AU v:=(rfl)
@[go_sem] theorem AQg (h:List V) (t:TypeId) (v:V):AY h t (.rop t v)=some v:=by simp[AY]
@[go_sem] theorem AQh (h:List V) (t:TypeId) (v:V):BL h t (.rop t v)=some v.weak:=by simp[BL,AY]
@[go_sem] theorem AN8 (h:List V) (t:TypeId) (id:Nat):AY h t (.ref id [] t)=h[id]?:=by
  simp only[AY,if_true,rd];cases h[id]?<;>rfl
theorem ldS_r0 (h:List V) (t:TypeId) (id:Nat):BL h t (.ref id [] t)=(h[id]?).map V.weak:=by rw[BL,AN8]
@[go_sem] theorem AN9 (h:List V) (t:TypeId) (id i:Nat):AY h t (.ref id [i] t)=(h[id]?).bind fun v=>V.at [i] v:=by simp only[AY,if_true,rd]
@[go_sem] theorem ATG (h:List V) (t:TypeId) (id i:Nat):BL h t (.ref id [i] t)=((h[id]?).bind fun v=>V.at [i] v).map V.weak:=by rw[BL,AN9]
@[go_sem] theorem AUy (u i:Nat) (fs:List V):V.at [i] (.agg u fs)=fs[i]?:=by simp only[V.at];cases fs[i]?<;>rfl
@[go_sem] theorem AUM (u i:Nat) (fs:List V):V.at [i] (.row u fs)=fs[i]?:=by simp only[V.at];cases fs[i]?<;>rfl
attribute [go_sem] ldS_r0 List.nil_append List.cons_append List.append_assoc List.length_nil List.length_cons List.length_append List.getElem?_cons_zero List.getElem?_cons_succ Option.map_some List.length_map List.set_cons_zero List.set_cons_succ List.take_zero List.take_succ_cons List.take_nil Nat.zero_add List.length_drop List.length_take List.length_replicate
@[go_sem] theorem AOA (id:Nat) (p:List Nat) (t:TypeId):Bj (.ref id p t)=some (.ref id p t):=(rfl)
@[go_sem] theorem AOB (t:TypeId) (x:V):Bj (.rop t x)=some (.rop t x):=(rfl)
@[go_sem] theorem AOC (f:FuncId) (x:List V):Bj (.clo f x)=some (.clo f x):=(rfl)
@[go_sem] theorem AOD {ty:V→Bool} {h:List V} {id:Nat} {v:V} (hi:id<h.length) (ht:ty v=true) (hu:v.under (id+1)=true) (t:TypeId):CJ ty t h (.ref id [] t) v=some (h.set id v):=by
  simp only[CJ,if_true,ht,hu,Bool.and_self,wr,List.getElem?_eq_getElem hi,Option.bind_some,V.upd,Option.map_some]
@[go_sem] theorem AUN {ty:V→Bool} {h:List V} {id i:Nat} {v:V} (ht:ty v=true) (hu:v.under (id+1)=true) (t:TypeId):CJ ty t h (.ref id [i] t) v=(h[id]?).bind fun r=>(V.upd [i] r v).map fun r'=>h.set id r':=by
  simp only[CJ,if_true,ht,hu,Bool.and_self,wr]
@[go_sem] theorem AUO {i:Nat} {fs:List V} (h:i<fs.length) (u:TypeId) (v:V):V.upd [i] (.agg u fs) v=some (.agg u (fs.set i v)):=by
  simp only[V.upd,List.getElem?_eq_getElem h,Option.bind_some,Option.map_some]
@[go_sem] theorem ATH {i:Nat} {fs:List V} (h:i<fs.length) (u:TypeId) (v:V):V.upd [i] (.row u fs) v=some (.row u (fs.set i v)):=by
  simp only[V.upd,List.getElem?_eq_getElem h,Option.bind_some,Option.map_some]
@[go_sem] theorem AUP (s:List UInt8):lnS (.str s)=some (.int .i64 s.length):=(rfl)
@[go_sem] theorem AUQ (e:TypeId) (f:Fl) (xs:List V):EU (.lst e f xs)=some (.int .i64 xs.length):=(rfl)
@[go_sem] theorem AUR (id:Nat) (p:List Nat) (o l e:Nat):EU (.win id p o l e)=some (.int .i64 l):=(rfl)
@[go_sem] theorem Qh (e:TypeId) (f:Fl) (xs:List V) (k:IntKind) (i:Nat):ET e (.lst e f xs) (.int k (i:Int))=(xs[i]?).map (.rop e):=by
  simp only[ET,inside,decide_true,Bool.true_and]
  by_cases h:i<xs.length
  ·simp[h]
  ·have:xs[i]?=none:=List.getElem?_eq_none (by omega)
   simp[h,this]
@[go_sem] theorem AUS (e:TypeId) (f:Fl) (xs:List V) (k:IntKind):ET e (.lst e f xs) (.int k 0)=(xs[0]?).map (.rop e):=Qh e f xs k 0
@[go_sem] theorem AUT (e:TypeId) (f:Fl) (xs:List V) (k:IntKind):ET e (.lst e f xs) (.int k 1)=(xs[1]?).map (.rop e):=Qh e f xs k 1
@[go_sem] theorem AUU (e:TypeId) (f:Fl) (xs:List V) (k:IntKind):ET e (.lst e f xs) (.int k 2)=(xs[2]?).map (.rop e):=Qh e f xs k 2
@[go_sem] theorem AUW (e:TypeId) (f:Fl) (xs:List V) (k:IntKind):ET e (.lst e f xs) (.int k 3)=(xs[3]?).map (.rop e):=Qh e f xs k 3
@[go_sem] theorem AQi (s:List UInt8) (k:IntKind) (i:Nat):ixT (.str s) (.int k (i:Int))=(s[i]?).map fun b=> .int .u8 b.toNat:=by
  simp only[ixT,inside]
  by_cases h:i<s.length
  ·simp[h]
  ·have:s[i]?=none:=List.getElem?_eq_none (by omega)
   simp[h,this]
@[go_sem] theorem AUX (s:List UInt8) (k:IntKind):ixT (.str s) (.int k 0)=(s[0]?).map fun b=> .int .u8 b.toNat:=AQi s k 0
@[go_sem] theorem AUY {i:Nat} {n:Nat} (h:i<n) (t u e id:Nat) (p:List Nat) (k:IntKind):ixA t u n e (.ref id p t) (.int k (i:Int))=some (.ref id (p++[i]) e):=by simp[ixA,inside,h]
@[go_sem] theorem AOE {s:List UInt8} {i:Nat} (h:i≤s.length) (k:IntKind):slT (.str s) (some (.int k (i:Int))) none=some (.str (s.drop i)):=by simp[slT,Bh,h]
@[go_sem] theorem ATI {s:List UInt8} {j:Nat} (h:j≤s.length) (k:IntKind):slT (.str s) none (some (.int k (j:Int)))=some (.str (s.take j)):=by simp[slT,Bh,h]
@[go_sem] theorem AQj {s:List UInt8} {i j:Nat} (h:i≤j) (h2:j≤s.length) (k k':IntKind):slT (.str s) (some (.int k (i:Int))) (some (.int k' (j:Int)))=some (.str ((s.take j).drop i)):=by simp[slT,Bh,h,h2]
@[go_sem] theorem ATJ {xs:List V} {i:Nat} (h:i≤xs.length) (e:TypeId) (f:Fl) (k:IntKind):slL e (.lst e f xs) (some (.int k (i:Int))) none none=some (.lst e f.cut (xs.drop i)):=by simp[slL,Bh,h]
@[go_sem] theorem AOF {xs:List V} {j:Nat} (h:j≤xs.length) (e:TypeId) (f:Fl) (k:IntKind):slL e (.lst e f xs) none (some (.int k (j:Int))) none=some (.lst e f.cut (xs.take j)):=by simp[slL,Bh,h]
@[go_sem] theorem ATK {xs:List V} {j:Nat} (h:j≤xs.length) (e:TypeId) (f:Fl) (k k':IntKind):slL e (.lst e f xs) none (some (.int k (j:Int))) (some (.int k' (j:Int)))=some (.lst e f.cut (xs.take j)):=by simp[slL,Bh,h]
@[go_sem] theorem ATL:Fl.cut .sh= .sh:=(rfl)
@[go_sem] theorem AR8:Fl.cut .own= .sh:=(rfl)
@[go_sem] theorem AR9:Fl.cut .nil= .nil:=(rfl)
@[go_sem] theorem AUZ (t u n e id:Nat) (p:List Nat):slA t u n e (.ref id p t) none none none=some (.win id p 0 n e):=by simp[slA,Bh]
@[go_sem] theorem AUz {α:Type} (x:α):ck [] x=some x:=(rfl)
@[go_sem] theorem AU0 {α:Type} {b:Bool} (h:b=true) (bs:List Bool) (x:α):ck (b::bs) x=ck bs x:=by rw[ck,if_pos h]
@[go_sem] theorem AQk {xs:List V} (h:AV xs=true) (e:TypeId) (hs:Bool):Hy e hs (some xs)=some (.lst e .own (nlB hs xs)):=by simp[Hy,h]
@[go_sem] theorem AL2 (h:List V) (e:TypeId) (f:Fl) (xs:List V):Ad h (.lst e f xs)=some xs:=(rfl)
@[go_sem] theorem EO {h:List V} {g:Fl} {ys:List V} {ty:V→Bool} {xs:List V} (hc:AV ys=true) (ht:ys.all ty=true) (hl:xs.length+ys.length≤2147483648) (e e':TypeId) (hs:Bool):
 Gi e ty hs h (.lst e .own xs) (.lst e' g ys)=some (.lst e .own (xs++nlB hs ys)):=by
  have hy:Ad h (.lst e' g ys)=some ys:=rfl
  simp[Gi,hy,hc,ht,Dh,hl]
theorem AKP {h:List V} {g:Fl} {ys:List V} {ty:V→Bool} {xs:List V} (hc:AV ys=true) (ht:ys.all ty=true) (hl:xs.length+ys.length≤2147483648) (hn:ys.isEmpty=false) (e e':TypeId) (hs:Bool):
 Gi e ty hs h (.lst e .nil xs) (.lst e' g ys)=some (.lst e .own (xs++nlB hs ys)):=by
 have hy:Ad h (.lst e' g ys)=some ys:=rfl
 simp[Gi,hy,hc,ht,Dh,hl,hn]
@[go_sem] theorem YK {h:List V} {g:Fl} {y:V} {ys:List V} {ty:V→Bool} {xs:List V} (hc:AV (y::ys)=true) (ht:(y::ys).all ty=true) (hl:xs.length+(y::ys).length≤2147483648) (e e':TypeId) (hs:Bool):
 Gi e ty hs h (.lst e .nil xs) (.lst e' g (y::ys))=some (.lst e .own (xs++nlB hs (y::ys))):=AKP hc ht hl rfl e e' hs
@[go_sem] theorem AQl {h:List V} {g:Fl} {ty:V→Bool} (e e':TypeId) (hs:Bool):Gi e ty hs h (.lst e .nil []) (.lst e' g [])=some (.lst e .nil []):=by
  cases hs<;>simp[Gi,Ad,AV,Dh,nlB,AU]
@[go_sem] theorem ASA (e e':TypeId):H8 .eql (.lst e .nil []) (.lst e' .nil [])=some (.bool true):=(rfl)
@[go_sem] theorem APZ (e e':TypeId) (xs:List V):H8 .eql (.lst e .non xs) (.lst e' .nil [])=some (.bool false):=by cases xs<;>rfl
@[go_sem] theorem ASB (e e':TypeId) (x:V) (xs:List V):H8 .eql (.lst e .sh (x::xs)) (.lst e' .nil [])=some (.bool false):=(rfl)
@[go_sem] theorem ATM:Fl.wk .non= .non:=(rfl)
theorem all_map {α:Type} {c:α→V} {ty:V→Bool} (h:∀a,ty (c a)=true) (l:List α):(l.map c).all ty=true:=by simp[h]
@[go_sem] theorem AQm:AV []=true:=(rfl)
@[go_sem] theorem AQn (x:V) (xs:List V):AV (x::xs)=(x.clean&&AV xs):=(rfl)
@[go_sem] theorem ASC (b:Bool):V.noOwn (.bool b)=true:=(rfl)
@[go_sem] theorem ASD (k:IntKind) (n:Int):V.noOwn (.int k n)=true:=(rfl)
@[go_sem] theorem AQo {v:V} (h:v.pl=true):v.noOwn=true:=(V.PF v h).noOwn
@[go_sem] theorem ATN {ty:V→Bool} {x y:V} {b:Bool} (hx:ty x=true) (hy:ty y=true) (h:Jv x y=some b):U2 ty .eql x y=some (.bool b):=by simp[U2,hx,hy,h]
theorem eqT_bool (a b:Bool):U2 tyB .eql (.bool a) (.bool b)=some (.bool (a==b)):=by simp[U2,tyB,Jv]
theorem eqT_nbool (a b:Bool):U2 tyB .neq (.bool a) (.bool b)=some (.bool (!(a==b))):=by simp[U2,tyB,Jv]
attribute [go_sem] eqT_bool eqT_nbool
@[go_sem] theorem ATO (id id' k:Nat) (t t':TypeId):ADY (.ref id [] t) k (.ref id' [k] t')=true:=by simp[ADY]
end AM
end
end Go.Proofs.YtiegkempfolgcaaGreatDoor
