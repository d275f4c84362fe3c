/-
  Part of the proof of a statement about the given program: an abstract machine over its code, the simulation, its functions' equations, what they compute.
-/
import Derived.Attr
import Derived.Test.YtphoocnlpnnkdaaGreatDoorMg3
import Derived.Test.YtphoocnlpnnkdaaGreatDoorMg7
set_option linter.unusedVariables false
set_option linter.unusedSimpArgs false
set_option linter.unusedSectionVars false
noncomputable section
namespace Go.Proofs.YtphoocnlpnnkdaaGreatDoor
section
namespace AM
open Go
@[congr] theorem AWG {A B:Type} {x y:Option A} (h:x=y) (K:A→Option B):x.bind K=y.bind K:=by rw[h]
@[congr] theorem AXY {B:Type} {x y:V} (h:x=y) (a b:Option B):V.ite x a b=V.ite y a b:=by rw[h]
attribute [go_sem] Option.bind_some
@[go_sem] theorem CO {B:Type} (a b:Option B):V.ite (.bool true) a b=a:=(rfl)
@[go_sem] theorem CV {B:Type} (a b:Option B):V.ite (.bool false) a b=b:=(rfl)
@[go_sem] theorem AT7 {B:Type} {p:Bool} (h:p=true) (a b:Option B):V.ite (.bool p) a b=a:=by rw[h];rfl
@[go_sem] theorem AU3 {B:Type} {p:Bool} (h:¬p=true) (a b:Option B):V.ite (.bool p) a b=b:=by cases p<;>first|rfl|exact absurd rfl h
@[go_sem] theorem BL {B:Type} {p:Prop} [Decidable p] (h:p) (a b:Option B):V.ite (.bool (decide p)) a b=a:=by rw[decide_eq_true h];rfl
@[go_sem] theorem BA {B:Type} {p:Prop} [Decidable p] (h:¬p) (a b:Option B):V.ite (.bool (decide p)) a b=b:=by rw[decide_eq_false h];rfl
@[go_sem] theorem AT8 {B:Type} (p:Bool) (a b:Option B):V.ite (.bool (!p)) a b=V.ite (.bool p) b a:=by cases p<;>rfl
theorem AO {α β:Type} (k:α) (f:α→β):jn k f=f k:=(rfl)
mutual
def V.pl:V→Bool
 | .bool _=>true
 | .int _ _=>true
 | .str _=>true
 | .nilp=>true
 | .nilf=>true
 | .nili=>true
 | .ifv=>true
 | .agg _ fs=>Iu fs
 | .lst _ .sh xs=>Iu xs
 |_=>false
 termination_by structural x=>x
def Iu:List V→Bool
 |[]=>true
 |x::xs=>x.pl&&Iu xs
 termination_by structural x=>x
end
@[go_sem] theorem pl_bool (b:Bool):V.pl (.bool b)=true:=(rfl)
@[go_sem] theorem pl_int (k:IntKind) (n:Int):V.pl (.int k n)=true:=(rfl)
@[go_sem] theorem AU4 (s:List UInt8):V.pl (.str s)=true:=(rfl)
@[go_sem] theorem AT9:V.pl .nilp=true:=(rfl)
@[go_sem] theorem AUA:V.pl .nili=true:=(rfl)
@[go_sem] theorem AU5 (u:TypeId) (fs:List V):V.pl (.agg u fs)=Iu fs:=(rfl)
@[go_sem] theorem AU6 (e:TypeId) (xs:List V):V.pl (.lst e .sh xs)=Iu xs:=(rfl)
@[go_sem] theorem AUB:Iu []=true:=(rfl)
@[go_sem] theorem ASH (x:V) (xs:List V):Iu (x::xs)=(x.pl&&Iu xs):=(rfl)
theorem AK4 (xs:List V):Iu xs=xs.all V.pl:=by
 induction xs with
 |nil=>rfl
 |cons x xs ih=>simp only[Iu,List.all_cons,ih]
theorem DC {α:Type} {c:α→V} (h:∀a,(c a).pl=true) (l:List α):Iu (l.map c)=true:=by
 rw[AK4];simp[h]
theorem UR (l:List UInt8):Iu (bytesOf l)=true:=DC (fun _=>rfl) l
structure PF (v:V):Prop where
 weak:v.weak=v
 norm:v.norm=v
 clean:v.clean=true
 reify:∀h,v.reify h=v
 unmut:∀h,v.unmut h=v
 under:∀n,v.under n=true
 over:∀n,v.over n=true
 away:∀n,v.away n=true
 noOwn:v.noOwn=true
structure PFL (v:List V):Prop where
 weak:Fv v=v
 norm:AP v=v
 clean:AU v=true
 reify:∀h,AB h v=v
 unmut:∀h,DU h v=v
 under:∀n,Aa n v=true
 over:∀n,Dy n v=true
 away:∀n,BM n v=true
 noOwn:BG v=true
mutual
theorem V.PF:∀v:V,v.pl=true→PF v
 | .bool _,_=>⟨rfl,rfl,rfl,fun _=>rfl,fun _=>rfl,fun _=>rfl,fun _=>rfl,fun _=>rfl,rfl⟩
 | .int _ _,_=>⟨rfl,rfl,rfl,fun _=>rfl,fun _=>rfl,fun _=>rfl,fun _=>rfl,fun _=>rfl,rfl⟩
 | .str _,_=>⟨rfl,rfl,rfl,fun _=>rfl,fun _=>rfl,fun _=>rfl,fun _=>rfl,fun _=>rfl,rfl⟩
 | .nilp,_=>⟨rfl,rfl,rfl,fun _=>rfl,fun _=>rfl,fun _=>rfl,fun _=>rfl,fun _=>rfl,rfl⟩
 | .nilf,_=>⟨rfl,rfl,rfl,fun _=>rfl,fun _=>rfl,fun _=>rfl,fun _=>rfl,fun _=>rfl,rfl⟩
 | .nili,_=>⟨rfl,rfl,rfl,fun _=>rfl,fun _=>rfl,fun _=>rfl,fun _=>rfl,fun _=>rfl,rfl⟩
 | .ifv,_=>⟨rfl,rfl,rfl,fun _=>rfl,fun _=>rfl,fun _=>rfl,fun _=>rfl,fun _=>rfl,rfl⟩
 | .agg u fs,h=>by
   have p:=V.PFL fs h
   exact⟨by simp only[V.weak,p.weak],by simp only[V.norm,p.norm],by simp only[V.clean,p.clean],fun h=>by simp only[V.reify,p.reify],fun h=>by simp only[V.unmut,p.unmut],fun n=>by simp only[V.under,p.under],fun n=>by simp only[V.over,p.over],fun n=>by simp only[V.away,p.away],by simp only[V.noOwn,p.noOwn]⟩
 | .lst e .sh xs,h=>⟨rfl,rfl,rfl,fun _=>rfl,fun _=>rfl,fun _=>rfl,fun _=>rfl,fun _=>rfl,rfl⟩
 | .lst _ .own _,h=>by cases h
 | .lst _ .nil _,h=>by cases h
 | .lst _ .lent _,h=>by cases h
 | .row _ _,h=>by cases h
 | .win _ _ _ _ _,h=>by cases h
 | .ref _ _ _,h=>by cases h
 | .rop _ _,h=>by cases h
 | .clo _ _,h=>by cases h
 | .tup _,h=>by cases h
 | .undef,h=>by cases h
theorem V.PFL:∀v:List V,Iu v=true→PFL v
 |[],_=>⟨rfl,rfl,rfl,fun _=>rfl,fun _=>rfl,fun _=>rfl,fun _=>rfl,fun _=>rfl,rfl⟩
 |x::xs,h=>by
  simp only[Iu,Bool.and_eq_true]at h
  have p:=V.PF x h.1;have q:=V.PFL xs h.2
  exact⟨by simp only[Fv,p.weak,q.weak],by simp only[AP,p.norm,q.norm],by simp only[AU,p.clean,q.clean,Bool.and_self],fun h=>by simp only[AB,p.reify,q.reify],fun h=>by simp only[DU,p.unmut,q.unmut],
   fun n=>by simp only[Aa,p.under,q.under,Bool.and_self],fun n=>by simp only[Dy,p.over,q.over,Bool.and_self],fun n=>by simp only[BM,p.away,q.away,Bool.and_self],by simp only[BG,p.noOwn,q.noOwn,Bool.and_self]⟩
end
@[go_sem] theorem AUC {v:V} (h:v.pl=true):v.weak=v:=(V.PF v h).weak
@[go_sem] theorem AUD {v:V} (h:v.pl=true):v.norm=v:=(V.PF v h).norm
@[go_sem] theorem ASI {v:V} (h:v.pl=true):v.clean=true:=(V.PF v h).clean
@[go_sem] theorem ASJ {v:V} (h:v.pl=true) (hp:List V):v.reify hp=v:=(V.PF v h).reify hp
@[go_sem] theorem ASL {v:V} (h:v.pl=true) (hp:List V):v.unmut hp=v:=(V.PF v h).unmut hp
@[go_sem] theorem ASM {v:V} (h:v.pl=true) (n:Nat):v.under n=true:=(V.PF v h).under n
@[go_sem] theorem AUE {v:V} (h:v.pl=true) (n:Nat):v.over n=true:=(V.PF v h).over n
@[go_sem] theorem Nl {v:List V} (h:Iu v=true):AU v=true:=(V.PFL v h).clean
@[go_sem] theorem MI {v:List V} (h:Iu v=true):AP v=v:=(V.PFL v h).norm
@[go_sem] theorem ARR {v:List V} (h:Iu v=true) (hp:List V):AB hp v=v:=(V.PFL v h).reify hp
def Fl.wk:Fl→Fl| .own=> .sh|f=>f
def Fl.rf:Fl→Fl| .lent=> .lent|_=> .sh
@[go_sem] theorem AWH:Fl.wk .sh= .sh:=(rfl)
@[go_sem] theorem Np:Fl.wk .own= .sh:=(rfl)
@[go_sem] theorem Nq:Fl.wk .nil= .nil:=(rfl)
@[go_sem] theorem AWI (f:Fl):f.wk.wk=f.wk:=by cases f<;>rfl
@[go_sem] theorem AWJ (f:Fl):f.wk.rf=f.rf:=by cases f<;>rfl
@[go_sem] theorem AWK (f:Fl):f.rf.rf=f.rf:=by cases f<;>rfl
@[go_sem] theorem AWL (f:Fl):f.rf.wk=f.rf:=by cases f<;>rfl
@[go_sem] theorem AWM:Fl.rf .sh= .sh:=(rfl)
@[go_sem] theorem AU7:Fl.rf .own= .sh:=(rfl)
@[go_sem] theorem AU8:Fl.rf .nil= .sh:=(rfl)
@[go_sem] theorem AUF:Fl.rf .lent= .lent:=(rfl)
@[go_sem] theorem UU (e:TypeId) (f:Fl) (xs:List V):V.weak (.lst e f xs)= .lst e f.wk xs:=by cases f<;>rfl
@[go_sem] theorem ARS {xs:List V} (h:Iu xs=true) (hp:List V) (e:TypeId) (f:Fl):V.reify hp (.lst e f xs)= .lst e f.rf xs:=by
  cases f<;>simp only[V.reify,Fl.rf,(V.PFL xs h).reify]
@[go_sem] theorem ASN (e:TypeId) (f:Fl) (xs:List V):V.norm (.lst e f xs)= .lst e f.rf xs:=by cases f<;>rfl
@[go_sem] theorem ASO (h:List V) (x:V) (xs:List V):AB h (x::xs)=x.reify h::AB h xs:=(rfl)
@[go_sem] theorem ASP (h:List V):AB h []=[]:=(rfl)
@[go_sem] theorem AUG (x:V) (xs:List V):AP (x::xs)=x.norm::AP xs:=(rfl)
@[go_sem] theorem AUH:AP []=[]:=(rfl)
@[go_sem] theorem ASQ (id:Nat) (p:List Nat) (t:TypeId):V.norm (.ref id p t)= .ref id p t:=(rfl)
@[go_sem] theorem ASR (id:Nat) (p:List Nat) (o l e:Nat):V.norm (.win id p o l e)= .win id p o l e:=(rfl)
@[go_sem] theorem ASS (t:TypeId) (v:V):V.norm (.rop t v)= .rop t v:=(rfl)
@[go_sem] theorem ASU (f:FuncId) (cs:List V):V.norm (.clo f cs)= .clo f cs:=(rfl)
@[go_sem] theorem ART (h:List V) (f:FuncId) (cs:List V):V.reify h (.clo f cs)= .clo f (AB h cs):=(rfl)
@[go_sem] theorem ARU (h:List V) (u:TypeId) (fs:List V):V.reify h (.agg u fs)= .agg u (AB h fs):=(rfl)
@[go_sem] theorem ASV (u:TypeId) (fs:List V):V.weak (.agg u fs)= .agg u (Fv fs):=(rfl)
@[go_sem] theorem AUI (x:V) (xs:List V):Fv (x::xs)=x.weak::Fv xs:=(rfl)
@[go_sem] theorem AUJ:Fv []=[]:=(rfl)
@[go_sem] theorem ARV (n:Nat) (u:TypeId) (fs:List V):V.under n (.agg u fs)=Aa n fs:=(rfl)
@[go_sem] theorem ASW (n:Nat) (x:V) (xs:List V):Aa n (x::xs)=(x.under n&&Aa n xs):=(rfl)
@[go_sem] theorem ASX (n:Nat):Aa n []=true:=(rfl)
@[go_sem] theorem ARW {f:Fl} (hf:f≠ .lent) (n:Nat) (e:TypeId) (xs:List V):V.under n (.lst e f xs)=true:=by cases f<;>first|rfl|exact absurd rfl hf
@[go_sem] theorem ARX (n:Nat) (e:TypeId) (xs:List V):V.under n (.lst e .own xs)=true:=(rfl)
@[go_sem] theorem ARY (n:Nat) (e:TypeId) (xs:List V):V.under n (.lst e .nil xs)=true:=(rfl)
@[go_sem] theorem ASY (n:Nat) (e:TypeId) (xs:List V):V.under n (.lst e .sh xs)=true:=(rfl)
@[go_sem] theorem UW {id n:Nat} (h:id<n) (p:List Nat) (t:TypeId):V.under n (.ref id p t)=true:=by simp[V.under,h]
@[go_sem] theorem ARZ {id n:Nat} (h:id<n) (p:List Nat) (o l e:Nat):V.under n (.win id p o l e)=true:=by simp[V.under,h]
theorem c0:((0:Nat):Int)=0:=(rfl)
theorem c1:((1:Nat):Int)=1:=(rfl)
@[go_sem] theorem ARa (n:Nat) (f:FuncId) (xs:List V):V.under n (.clo f xs)=Aa n xs:=(rfl)
@[go_sem] theorem ARb (e:TypeId) (xs:List V):V.clean (.lst e .own xs)=true:=(rfl)
@[go_sem] theorem clean_nil (e:TypeId) (xs:List V):V.clean (.lst e .nil xs)=true:=(rfl)
attribute [go_sem] Bool.and_self Bool.and_true Bool.true_and if_true
@[go_sem] theorem all_nil (ty:V→Bool):List.all [] ty=true:=(rfl)
@[go_sem] theorem all_cons (ty:V→Bool) (x:V) (xs:List V):List.all (x::xs) ty=(ty x&&List.all xs ty):=(rfl)
@[go_sem] theorem AUK {v:V} (h:v.pl=true) (n:Nat) (hp:List V):AQ n hp v=some (v,hp.take n):=by
  have p:=V.PF v h
  simp only[AQ,p.unmut,p.norm,p.clean,p.over,Bool.and_self,if_true]
@[go_sem] theorem ASZ (n:Nat) (hp:List V) (e:TypeId) (xs:List V):AQ n hp (.lst e .own xs)=some (.lst e .sh xs,hp.take n):=(rfl)
@[go_sem] theorem ASa (n:Nat) (hp:List V) (e:TypeId) (xs:List V):AQ n hp (.lst e .nil xs)=some (.lst e .sh xs,hp.take n):=(rfl)
@[go_sem] theorem AUL (n:Nat) (hp:List V) (e:TypeId) (xs:List V):AQ n hp (.lst e .sh xs)=some (.lst e .sh xs,hp.take n):=(rfl)
mutual
def V.fok:V→Bool
 | .bool _=>true
 | .int _ _=>true
 | .str _=>true
 | .nilp=>true
 | .nilf=>true
 | .nili=>true
 | .ifv=>true
 | .agg _ fs=>RH fs
 | .lst _ .own _=>true
 | .lst _ .nil _=>true
 | .lst _ .sh _=>true
 |_=>false
 termination_by structural x=>x
def RH:List V→Bool
 |[]=>true
 |x::xs=>x.fok&&RH xs
 termination_by structural x=>x
end
@[go_sem] theorem AUM (u:TypeId) (fs:List V):V.fok (.agg u fs)=RH fs:=(rfl)
@[go_sem] theorem AU9:RH []=true:=(rfl)
@[go_sem] theorem AVA (x:V) (xs:List V):RH (x::xs)=(x.fok&&RH xs):=(rfl)
@[go_sem] theorem AUN (e:TypeId) (xs:List V):V.fok (.lst e .own xs)=true:=(rfl)
@[go_sem] theorem AUO (e:TypeId) (xs:List V):V.fok (.lst e .nil xs)=true:=(rfl)
@[go_sem] theorem AVB (e:TypeId) (xs:List V):V.fok (.lst e .sh xs)=true:=(rfl)
@[go_sem] theorem ASb (u:TypeId) (fs:List V):V.norm (.agg u fs)= .agg u (AP fs):=(rfl)
mutual
theorem V.fok_pl':∀v:V,v.pl=true→v.fok=true
 | .bool _,_=>rfl
 | .int _ _,_=>rfl
 | .str _,_=>rfl
 | .nilp,_=>rfl
 | .nilf,_=>rfl
 | .nili,_=>rfl
 | .ifv,_=>rfl
 | .agg _ fs,h=>YT fs h
 | .lst _ .sh _,_=>rfl
 | .lst _ .own _,h=>by cases h
 | .lst _ .nil _,h=>by cases h
 | .lst _ .lent _,h=>by cases h
 | .row _ _,h=>by cases h
 | .win _ _ _ _ _,h=>by cases h
 | .ref _ _ _,h=>by cases h
 | .rop _ _,h=>by cases h
 | .clo _ _,h=>by cases h
 | .tup _,h=>by cases h
 | .undef,h=>by cases h
theorem YT:∀v:List V,Iu v=true→RH v=true
 |[],_=>rfl
 |x::xs,h=>by
  simp only[Iu,Bool.and_eq_true]at h
  simp only[RH,V.fok_pl' x h.1,YT xs h.2,Bool.and_self]
end
@[go_sem] theorem AVC {v:V} (h:v.pl=true):v.fok=true:=V.fok_pl' v h
mutual
theorem V.fok_all:∀v:V,v.fok=true→(∀hp,v.unmut hp=v)∧v.norm.clean=true∧(∀n,v.norm.over n=true)∧v.okE=true
 | .bool _,_=>⟨fun _=>rfl,rfl,fun _=>rfl,rfl⟩
 | .int _ _,_=>⟨fun _=>rfl,rfl,fun _=>rfl,rfl⟩
 | .str _,_=>⟨fun _=>rfl,rfl,fun _=>rfl,rfl⟩
 | .nilp,_=>⟨fun _=>rfl,rfl,fun _=>rfl,rfl⟩
 | .nilf,_=>⟨fun _=>rfl,rfl,fun _=>rfl,rfl⟩
 | .nili,_=>⟨fun _=>rfl,rfl,fun _=>rfl,rfl⟩
 | .ifv,_=>⟨fun _=>rfl,rfl,fun _=>rfl,rfl⟩
 | .agg u fs,h=>by
   obtain⟨a,b,c⟩:=RI fs h
   exact⟨fun hp=>by simp only[V.unmut,a],by simp only[V.norm,V.clean,b],fun n=>by simp only[V.norm,V.over,c],rfl⟩
 | .lst _ .own _,_=>⟨fun _=>rfl,rfl,fun _=>rfl,rfl⟩
 | .lst _ .nil _,_=>⟨fun _=>rfl,rfl,fun _=>rfl,rfl⟩
 | .lst _ .sh _,_=>⟨fun _=>rfl,rfl,fun _=>rfl,rfl⟩
 | .lst _ .lent _,h=>by cases h
 | .row _ _,h=>by cases h
 | .win _ _ _ _ _,h=>by cases h
 | .ref _ _ _,h=>by cases h
 | .rop _ _,h=>by cases h
 | .clo _ _,h=>by cases h
 | .tup _,h=>by cases h
 | .undef,h=>by cases h
theorem RI:∀v:List V,RH v=true→(∀hp,DU hp v=v)∧AU (AP v)=true∧(∀n,Dy n (AP v)=true)
 |[],_=>⟨fun _=>rfl,rfl,fun _=>rfl⟩
 |x::xs,h=>by
  simp only[RH,Bool.and_eq_true]at h
  obtain⟨a,b,c,_⟩:=V.fok_all x h.1;obtain⟨a',b',c'⟩:=RI xs h.2
  exact⟨fun hp=>by simp only[DU,a,a'],by simp only[AP,AU,b,b',Bool.and_self],fun n=>by simp only[AP,Dy,c,c',Bool.and_self]⟩
end
mutual
theorem V.over_norm:∀(v:V) (n:Nat),v.norm.over n=v.over n
 | .agg u fs,n=>by simp only[V.norm,V.over,Gp]
 | .row u fs,n=>by simp only[V.norm,V.over,Gp]
 | .tup fs,n=>by simp only[V.norm,V.over,Gp]
 | .lst _ f _,n=>by cases f<;>rfl
 | .bool _,_=>rfl
 | .int _ _,_=>rfl
 | .str _,_=>rfl
 | .nilp,_=>rfl
 | .nilf,_=>rfl
 | .nili,_=>rfl
 | .ifv,_=>rfl
 | .win _ _ _ _ _,_=>rfl
 | .ref _ _ _,_=>rfl
 | .rop _ _,_=>rfl
 | .clo _ _,_=>rfl
 | .undef,_=>rfl
theorem Gp:∀(v:List V) (n:Nat),Dy n (AP v)=Dy n v
 |[],_=>rfl
 |x::xs,n=>by simp only[AP,Dy,V.over_norm x n,Gp xs n]
end
@[go_sem] theorem ASc {u:TypeId} {fs:List V} (h:RH fs=true) (n:Nat) (hp:List V):AQ n hp (.agg u fs)=some (.agg u (AP fs),hp.take n):=by
  obtain⟨a,b,c⟩:=RI fs h
  have ov:∀n,Dy n fs=true:=fun n=>by rw[←Gp];exact c n
  simp only[AQ,V.unmut,a,V.norm,V.clean,b,V.over,ov,Bool.and_self,if_true]
@[go_sem] theorem AUP {a:V} (ha:a.fok=true) (n:Nat) (hp:List V):AQ n hp (V.tup [a])=some (.tup [a.norm],hp.take n):=by
  obtain⟨a1,a3,a4,a5⟩:=V.fok_all a ha
  simp only[V.over_norm]at a4
  simp only[AQ,V.unmut,DU,a1,V.norm,AP,V.clean,AU,a3,V.over,Dy,a4,Bool.and_self,if_true]
@[go_sem] theorem AVD {a b:V} (ha:a.fok=true) (hb:b.fok=true) (n:Nat) (hp:List V):AQ n hp (V.tup [a,b])=some (.tup [a.norm,b.norm],hp.take n):=by
  obtain⟨a1,a3,a4,a5⟩:=V.fok_all a ha;obtain⟨b1,b3,b4,b5⟩:=V.fok_all b hb
  simp only[V.over_norm]at a4 b4
  simp only[AQ,V.unmut,DU,a1,b1,V.norm,AP,V.clean,AU,a3,b3,V.over,Dy,a4,b4,Bool.and_self,if_true]
@[go_sem] theorem AVE {a b c:V} (ha:a.fok=true) (hb:b.fok=true) (hc:c.fok=true) (n:Nat) (hp:List V):AQ n hp (V.tup [a,b,c])=some (.tup [a.norm,b.norm,c.norm],hp.take n):=by
  obtain⟨a1,a3,a4,a5⟩:=V.fok_all a ha;obtain⟨b1,b3,b4,b5⟩:=V.fok_all b hb;obtain⟨c1,c3,c4,c5⟩:=V.fok_all c hc
  simp only[V.over_norm]at a4 b4 c4
  simp only[AQ,V.unmut,DU,a1,b1,c1,V.norm,AP,V.clean,AU,a3,b3,c3,V.over,Dy,a4,b4,c4,Bool.and_self,if_true]
@[go_sem] theorem AVF (n:Nat) (hp:List V):AQ n hp (V.tup [])=some (.tup [],hp.take n):=(rfl)
@[go_sem] theorem AUQ {v:V} (h:v.fok=true):v.okE=true:=(V.fok_all v h).2.2.2
@[go_sem] theorem ASd (n:Nat) (hp:List V) (e:TypeId) (xs:List V):TP n hp (.lst e .own xs)=some (.lst e .own xs,hp.take n):=(rfl)
@[go_sem] theorem ASe (n:Nat) (hp:List V) (e:TypeId) (xs:List V):TP n hp (.lst e .nil xs)=some (.lst e .nil xs,hp.take n):=(rfl)
@[go_sem] theorem AWN (a:V) (l:List V):ext (.tup (a::l)) 0=some a:=(rfl)
@[go_sem] theorem AWO (a b:V) (l:List V):ext (.tup (a::b::l)) 1=some b:=(rfl)
@[go_sem] theorem AWP (a b c:V) (l:List V):ext (.tup (a::b::c::l)) 2=some c:=(rfl)
@[go_sem] theorem AWQ (a b c d:V) (l:List V):ext (.tup (a::b::c::d::l)) 3=some d:=(rfl)
@[go_sem] theorem AVG (a:V) (l:List V):QI (.tup (a::l)) 0=some a.weak:=(rfl)
@[go_sem] theorem AVH (a b:V) (l:List V):QI (.tup (a::b::l)) 1=some b.weak:=(rfl)
@[go_sem] theorem AVI (a b c:V) (l:List V):QI (.tup (a::b::c::l)) 2=some c.weak:=(rfl)
@[go_sem] theorem AWR (b:Bool):tyB (.bool b)=true:=(rfl)
@[go_sem] theorem AWS (k:IntKind) (n:Int):tyI k (.int k n)=true:=by simp[tyI]
@[go_sem] theorem AWT (s:List UInt8):tyS (.str s)=true:=(rfl)
@[go_sem] theorem RJ (u:TypeId) (fs:List V):tyG u (.agg u fs)=true:=by simp[tyG]
@[go_sem] theorem AWU (e:TypeId) (f:Fl) (xs:List V):tyL e (.lst e f xs)=true:=by simp[tyL]
@[go_sem] theorem AWV (id:Nat) (p:List Nat) (t:TypeId):tyP (.ref id p t)=true:=(rfl)
@[go_sem] theorem AWW (f:FuncId) (cs:List V):tyF (.clo f cs)=true:=(rfl)
attribute [go_sem] b_lss b_leq b_gtr b_geq b_eql b_neq s_eql s_neq
@[go_sem] theorem AVJ (b:Bool):un .not (.bool b)=some (.bool (!b)):=(rfl)
@[go_sem high] theorem add1 {a:Nat} (h:a+1<4611686018427387904):AL .add (.int .i64 (a:Int)) (.int .i64 1)=some (.int .i64 ((a+1:Nat):Int)):=by
  rw[Bq,wrap_i64 (by omega) (by omega)];congr 2
@[go_sem high] theorem addN {a b:Nat} (h:a+b<4611686018427387904):AL .add (.int .i64 (a:Int)) (.int .i64 (b:Int))=some (.int .i64 ((a+b:Nat):Int)):=by
  rw[Bq,wrap_i64 (by omega) (by omega)];congr 2
@[go_sem high] theorem AXZ {a:Nat} (h:1≤a) (h2:a<4611686018427387904):AL .sub (.int .i64 (a:Int)) (.int .i64 1)=some (.int .i64 ((a-1:Nat):Int)):=by
  rw[Ku,wrap_i64 (by omega) (by omega)];congr 2;omega
@[go_sem high] theorem ASf {a b:Nat} (h:b≤a) (h2:a<4611686018427387904):AL .sub (.int .i64 (a:Int)) (.int .i64 (b:Int))=some (.int .i64 ((a-b:Nat):Int)):=by
  rw[Ku,wrap_i64 (by omega) (by omega)];congr 2;omega
@[go_sem high] theorem AWX {a:Nat} (h:a+1<18446744073709551616):AL .add (.int .u64 (a:Int)) (.int .u64 1)=some (.int .u64 ((a+1:Nat):Int)):=by
  rw[Bq,wrap_u64 (by omega) (by omega)];congr 2
@[go_sem] theorem AWY {a b:Int} (h1: -9223372036854775808≤a+b) (h2:a+b<9223372036854775808):AL .add (.int .i64 a) (.int .i64 b)=some (.int .i64 (a+b)):=by rw[Bq,wrap_i64 h1 h2]
@[go_sem] theorem AWZ {a b:Int} (h1: -9223372036854775808≤a-b) (h2:a-b<9223372036854775808):AL .sub (.int .i64 a) (.int .i64 b)=some (.int .i64 (a-b)):=by rw[Ku,wrap_i64 h1 h2]
@[go_sem] theorem ASg {a b:Int} (h1: -9223372036854775808≤a*b) (h2:a*b<9223372036854775808):AL .mul (.int .i64 a) (.int .i64 b)=some (.int .i64 (a*b)):=by rw[RG,wrap_i64 h1 h2]
theorem UX (a b:Nat):(a:Int).tdiv b=((a/b:Nat):Int)∧(a:Int).tmod b=((a%b:Nat):Int):=⟨rfl,rfl⟩
@[go_sem] theorem AK5 {a b:Nat} (h:0<b) (k:IntKind):AL .rem (.int k (a:Int)) (.int k (b:Int))=some (.int k ((a%b:Nat):Int)):=by
  rw[MH _ _ _ (by omega),(UX a b).2]
@[go_sem] theorem AXa {a:Nat} (h2:a<9223372036854775808):AL .quo (.int .i64 (a:Int)) (.int .i64 2)=some (.int .i64 ((a/2:Nat):Int)):=by
  rw[YS _ _ _ (by omega),show(a:Int).tdiv 2=((a/2:Nat):Int)from rfl,wrap_i64 (by omega) (by omega)]
@[go_sem] theorem AXb {a b:Nat} (h:0<b) (h2:a<9223372036854775808):AL .quo (.int .i64 (a:Int)) (.int .i64 (b:Int))=some (.int .i64 ((a/b:Nat):Int)):=by
  have:=Nat.div_le_self a b
  rw[YS _ _ _ (by omega),(UX a b).1]
  generalize a/b=q at*
  rw[wrap_i64 (by omega) (by omega)]
@[go_sem high] theorem AWa (a:List UInt8):AL .eql (.str a) (.str a)=some (.bool true):=by rw[s_eql,decide_eq_true rfl]
@[go_sem high] theorem AWb (a:List UInt8):AL .neq (.str a) (.str a)=some (.bool false):=by rw[s_neq];simp
@[go_sem high] theorem AWc (k:IntKind) (a:Int):AL .eql (.int k a) (.int k a)=some (.bool true):=by rw[b_eql,decide_eq_true rfl]
@[go_sem high] theorem AWd (k:IntKind) (a:Int):AL .neq (.int k a) (.int k a)=some (.bool false):=by rw[b_neq];simp
@[go_sem] theorem AWe {a b:List UInt8} (h:a.length+b.length≤4611686018427387904):AL .add (.str a) (.str b)=some (.str (a++b)):=ASG a b h
theorem cvI_i64 {k:IntKind} {n:Int} (h1: -9223372036854775808≤n) (h2:n<9223372036854775808):Kr .i64 (.int k n)=some (.int .i64 n):=by rw[Kr,wrap_i64 h1 h2]
theorem cvI_u64 {k:IntKind} {n:Int} (h1:0≤n) (h2:n<18446744073709551616):Kr .u64 (.int k n)=some (.int .u64 n):=by rw[Kr,wrap_u64 h1 h2]
theorem cvI_u8 {k:IntKind} {n:Int} (h1:0≤n) (h2:n<256):Kr .u8 (.int k n)=some (.int .u8 n):=by rw[Kr,wrap_u8 h1 h2]
attribute [go_sem] cvI_i64 cvI_u64 cvI_u8
@[go_sem] theorem AWf (s:List UInt8):cvS (.str s)=some (.str s):=(rfl)
@[go_sem] theorem AWg {s:List UInt8} (h:s.length≤2147483648) (e:TypeId):cvB e (.str s)=some (.lst e .own (bytesOf s)):=if_pos h
theorem Kv:∀s:List UInt8,Fg (bytesOf s)=some s
 |[]=>rfl
 |x::s=>by
  have:bytesOf (x::s)= .int .u8 x.toNat::bytesOf s:=(rfl)
  rw[this]
  simp only[Fg,byteOf,Kv s,Int.toNat_natCast,UInt8.ofNat_toNat,Option.bind_some,Option.map_some]
@[go_sem] theorem AWh (h:List V) (e:TypeId) (f:Fl) (s:List UInt8):cvT h (.lst e f (bytesOf s))=some (.str s):=by simp only[cvT,Ai,Option.bind_some,Kv,Option.map_some]
@[go_sem] theorem APc (s ft:TypeId) (f id:Nat) (p:List Nat):fA s ft f (.ref id p s)=some (.ref id (p++[f]) ft):=by simp[fA]
@[go_sem] theorem AVK (s ft:TypeId) (f:Nat) (u:TypeId) (xs:List V):fA s ft f (.rop s (.agg u xs))=(xs[f]?).map (.rop ft):=by simp[fA]
@[go_sem] theorem AVL (u:TypeId) (f:Nat) (hs:Bool) (xs:List V):fV u f hs (.agg u xs)=(xs[f]?).map (cpB hs):=by simp[fV]
@[go_sem] theorem AWi (v:V):cpB false v=v:=(rfl)
@[go_sem] theorem AWj (v:V):cpB true v=v.weak:=(rfl)
@[go_sem] theorem ASh (v:List V):nlB false v=v:=(rfl)
@[go_sem] theorem AWk (v:List V):nlB true v=AP v:=(rfl)
@[go_sem] theorem ASi (h:List V) (t:TypeId) (v:V):AX h t (.rop t v)=some v:=by simp[AX]
@[go_sem] theorem ASj (h:List V) (t:TypeId) (v:V):CU h t (.rop t v)=some v.weak:=by simp[CU,AX]
@[go_sem] theorem APd (h:List V) (t:TypeId) (id:Nat):AX h t (.ref id [] t)=h[id]?:=by
  simp only[AX,if_true,rd];cases h[id]?<;>rfl
theorem ldS_r0 (h:List V) (t:TypeId) (id:Nat):CU h t (.ref id [] t)=(h[id]?).map V.weak:=by rw[CU,APd]
@[go_sem] theorem APe (h:List V) (t:TypeId) (id i:Nat):AX h t (.ref id [i] t)=(h[id]?).bind fun v=>V.at [i] v:=by simp only[AX,if_true,rd]
@[go_sem] theorem AVM (h:List V) (t:TypeId) (id i:Nat):CU h t (.ref id [i] t)=((h[id]?).bind fun v=>V.at [i] v).map V.weak:=by rw[CU,APe]
@[go_sem] theorem AXc (u i:Nat) (fs:List V):V.at [i] (.agg u fs)=fs[i]?:=by simp only[V.at];cases fs[i]?<;>rfl
@[go_sem] theorem AWl (u i:Nat) (fs:List V):V.at [i] (.row u fs)=fs[i]?:=by simp only[V.at];cases fs[i]?<;>rfl
attribute [go_sem] ldS_r0 List.nil_append List.cons_append List.append_assoc List.length_nil List.length_cons List.length_append List.getElem?_cons_zero List.getElem?_cons_succ Option.map_some List.length_map List.set_cons_zero List.set_cons_succ List.take_zero List.take_succ_cons List.take_nil Nat.zero_add List.length_drop List.length_take List.length_replicate
@[go_sem] theorem APf (id:Nat) (p:List Nat) (t:TypeId):Ag (.ref id p t)=some (.ref id p t):=(rfl)
@[go_sem] theorem APg (t:TypeId) (x:V):Ag (.rop t x)=some (.rop t x):=(rfl)
@[go_sem] theorem APh (f:FuncId) (x:List V):Ag (.clo f x)=some (.clo f x):=(rfl)
@[go_sem] theorem APi {ty:V→Bool} {h:List V} {id:Nat} {v:V} (hi:id<h.length) (ht:ty v=true) (hu:v.under (id+1)=true) (t:TypeId):DJ ty t h (.ref id [] t) v=some (h.set id v):=by
  simp only[DJ,if_true,ht,hu,Bool.and_self,wr,List.getElem?_eq_getElem hi,Option.bind_some,V.upd,Option.map_some]
theorem APj {ty:V→Bool} {h:List V} {id i:Nat} {u:TypeId} {fs:List V} {v:V} (hh:h[id]?=some (.agg u fs)) (hi:i<fs.length) (ht:ty v=true) (hu:v.under (id+1)=true) (t:TypeId):DJ ty t h (.ref id [i] t) v=some (h.set id (.agg u (fs.set i v))):=by
 simp only[DJ,if_true,ht,hu,Bool.and_self,wr,hh,Option.bind_some,V.upd,List.getElem?_eq_getElem hi,Option.map_some]
@[go_sem] theorem ANR {ty:V→Bool} {h:List V} {id i:Nat} {v:V} (ht:ty v=true) (hu:v.under (id+1)=true) (t:TypeId):DJ ty t h (.ref id [i] t) v=(h[id]?).bind fun r=>(V.upd [i] r v).map fun r'=>h.set id r':=by
  simp only[DJ,if_true,ht,hu,Bool.and_self,wr]
@[go_sem] theorem AWm {i:Nat} {fs:List V} (h:i<fs.length) (u:TypeId) (v:V):V.upd [i] (.agg u fs) v=some (.agg u (fs.set i v)):=by
  simp only[V.upd,List.getElem?_eq_getElem h,Option.bind_some,Option.map_some]
@[go_sem] theorem APk {i:Nat} {fs:List V} (h:i<fs.length) (u:TypeId) (v:V):V.upd [i] (.row u fs) v=some (.row u (fs.set i v)):=by
  simp only[V.upd,List.getElem?_eq_getElem h,Option.bind_some,Option.map_some]
@[go_sem] theorem AWn (s:List UInt8):lnS (.str s)=some (.int .i64 s.length):=(rfl)
@[go_sem] theorem AWo (e:TypeId) (f:Fl) (xs:List V):EJ (.lst e f xs)=some (.int .i64 xs.length):=(rfl)
@[go_sem] theorem AWp (id:Nat) (p:List Nat) (o l e:Nat):EJ (.win id p o l e)=some (.int .i64 l):=(rfl)
@[go_sem] theorem DL (e:TypeId) (f:Fl) (xs:List V) (k:IntKind) (i:Nat):D9 e (.lst e f xs) (.int k (i:Int))=(xs[i]?).map (.rop e):=by
  simp only[D9,inside,decide_true,Bool.true_and]
  by_cases h:i<xs.length
  ·simp[h]
  ·have:xs[i]?=none:=List.getElem?_eq_none (by omega)
   simp[h,this]
@[go_sem] theorem AWq (e:TypeId) (f:Fl) (xs:List V) (k:IntKind):D9 e (.lst e f xs) (.int k 0)=(xs[0]?).map (.rop e):=DL e f xs k 0
@[go_sem] theorem AWr (e:TypeId) (f:Fl) (xs:List V) (k:IntKind):D9 e (.lst e f xs) (.int k 1)=(xs[1]?).map (.rop e):=DL e f xs k 1
@[go_sem] theorem AWs (e:TypeId) (f:Fl) (xs:List V) (k:IntKind):D9 e (.lst e f xs) (.int k 2)=(xs[2]?).map (.rop e):=DL e f xs k 2
@[go_sem] theorem AWt (e:TypeId) (f:Fl) (xs:List V) (k:IntKind):D9 e (.lst e f xs) (.int k 3)=(xs[3]?).map (.rop e):=DL e f xs k 3
@[go_sem] theorem ASk (s:List UInt8) (k:IntKind) (i:Nat):ixT (.str s) (.int k (i:Int))=(s[i]?).map fun b=> .int .u8 b.toNat:=by
  simp only[ixT,inside]
  by_cases h:i<s.length
  ·simp[h]
  ·have:s[i]?=none:=List.getElem?_eq_none (by omega)
   simp[h,this]
@[go_sem] theorem AWu (s:List UInt8) (k:IntKind):ixT (.str s) (.int k 0)=(s[0]?).map fun b=> .int .u8 b.toNat:=ASk s k 0
@[go_sem] theorem AWv {i:Nat} {n:Nat} (h:i<n) (t u e id:Nat) (p:List Nat) (k:IntKind):ixA t u n e (.ref id p t) (.int k (i:Int))=some (.ref id (p++[i]) e):=by simp[ixA,inside,h]
@[go_sem] theorem APl {s:List UInt8} {i:Nat} (h:i≤s.length) (k:IntKind):slT (.str s) (some (.int k (i:Int))) none=some (.str (s.drop i)):=by simp[slT,CQ,h]
@[go_sem] theorem AVN {s:List UInt8} {j:Nat} (h:j≤s.length) (k:IntKind):slT (.str s) none (some (.int k (j:Int)))=some (.str (s.take j)):=by simp[slT,CQ,h]
@[go_sem] theorem ASl {s:List UInt8} {i j:Nat} (h:i≤j) (h2:j≤s.length) (k k':IntKind):slT (.str s) (some (.int k (i:Int))) (some (.int k' (j:Int)))=some (.str ((s.take j).drop i)):=by simp[slT,CQ,h,h2]
@[go_sem] theorem AVO {xs:List V} {i:Nat} (h:i≤xs.length) (e:TypeId) (f:Fl) (k:IntKind):slL e (.lst e f xs) (some (.int k (i:Int))) none none=some (.lst e f.cut (xs.drop i)):=by simp[slL,CQ,h]
@[go_sem] theorem AVP {xs:List V} {j:Nat} (h:j≤xs.length) (e:TypeId) (f:Fl) (k:IntKind):slL e (.lst e f xs) none (some (.int k (j:Int))) none=some (.lst e f.cut (xs.take j)):=by simp[slL,CQ,h]
@[go_sem] theorem AVQ {xs:List V} {j:Nat} (h:j≤xs.length) (e:TypeId) (f:Fl) (k k':IntKind):slL e (.lst e f xs) none (some (.int k (j:Int))) (some (.int k' (j:Int)))=some (.lst e f.cut (xs.take j)):=by simp[slL,CQ,h]
@[go_sem] theorem AVR:Fl.cut .sh= .sh:=(rfl)
@[go_sem] theorem AUR:Fl.cut .own= .sh:=(rfl)
@[go_sem] theorem AUS:Fl.cut .nil= .nil:=(rfl)
@[go_sem] theorem AWw (t u n e id:Nat) (p:List Nat):slA t u n e (.ref id p t) none none none=some (.win id p 0 n e):=by simp[slA,CQ]
@[go_sem] theorem AXd {α:Type} (x:α):ck [] x=some x:=(rfl)
@[go_sem] theorem AXe {α:Type} {b:Bool} (h:b=true) (bs:List Bool) (x:α):ck (b::bs) x=ck bs x:=by rw[ck,if_pos h]
@[go_sem] theorem AWx {xs:List V} (h:AU xs=true) (e:TypeId) (hs:Bool):NU e hs (some xs)=some (.lst e .own (nlB hs xs)):=by simp[NU,h]
@[go_sem] theorem ANT (h:List V) (e:TypeId) (f:Fl) (xs:List V):Ai h (.lst e f xs)=some xs:=(rfl)
@[go_sem] theorem Bj {h:List V} {g:Fl} {ys:List V} {ty:V→Bool} {xs:List V} (hc:AU ys=true) (ht:ys.all ty=true) (hl:xs.length+ys.length≤2147483648) (e e':TypeId) (hs:Bool):
 FU e ty hs h (.lst e .own xs) (.lst e' g ys)=some (.lst e .own (xs++nlB hs ys)):=by
  have hy:Ai h (.lst e' g ys)=some ys:=rfl
  simp[FU,hy,hc,ht,EI,hl]
theorem AK6 {h:List V} {g:Fl} {ys:List V} {ty:V→Bool} {xs:List V} (hc:AU ys=true) (ht:ys.all ty=true) (hl:xs.length+ys.length≤2147483648) (hn:ys.isEmpty=false) (e e':TypeId) (hs:Bool):
 FU e ty hs h (.lst e .nil xs) (.lst e' g ys)=some (.lst e .own (xs++nlB hs ys)):=by
 have hy:Ai h (.lst e' g ys)=some ys:=rfl
 simp[FU,hy,hc,ht,EI,hl,hn]
@[go_sem] theorem Bf {h:List V} {g:Fl} {y:V} {ys:List V} {ty:V→Bool} {xs:List V} (hc:AU (y::ys)=true) (ht:(y::ys).all ty=true) (hl:xs.length+(y::ys).length≤2147483648) (e e':TypeId) (hs:Bool):
 FU e ty hs h (.lst e .nil xs) (.lst e' g (y::ys))=some (.lst e .own (xs++nlB hs (y::ys))):=AK6 hc ht hl rfl e e' hs
@[go_sem] theorem ASm {h:List V} {g:Fl} {ty:V→Bool} (e e':TypeId) (hs:Bool):FU e ty hs h (.lst e .nil []) (.lst e' g [])=some (.lst e .nil []):=by
  cases hs<;>simp[FU,Ai,AU,EI,nlB,AP]
@[go_sem] theorem AUT (e e':TypeId):KY .eql (.lst e .nil []) (.lst e' .nil [])=some (.bool true):=(rfl)
@[go_sem] theorem ARc (e e':TypeId) (xs:List V):KY .eql (.lst e .non xs) (.lst e' .nil [])=some (.bool false):=by cases xs<;>rfl
@[go_sem] theorem AUU (e e':TypeId) (x:V) (xs:List V):KY .eql (.lst e .sh (x::xs)) (.lst e' .nil [])=some (.bool false):=(rfl)
@[go_sem] theorem AVS:Fl.wk .non= .non:=(rfl)
theorem all_map {α:Type} {c:α→V} {ty:V→Bool} (h:∀a,ty (c a)=true) (l:List α):(l.map c).all ty=true:=by simp[h]
@[go_sem] theorem ASn:AU []=true:=(rfl)
@[go_sem] theorem ASo (x:V) (xs:List V):AU (x::xs)=(x.clean&&AU xs):=(rfl)
@[go_sem] theorem AUW (b:Bool):V.noOwn (.bool b)=true:=(rfl)
@[go_sem] theorem AUX (k:IntKind) (n:Int):V.noOwn (.int k n)=true:=(rfl)
@[go_sem] theorem ASp {v:V} (h:v.pl=true):v.noOwn=true:=(V.PF v h).noOwn
@[go_sem] theorem AVT {ty:V→Bool} {x y:V} {b:Bool} (hx:ty x=true) (hy:ty y=true) (h:KX x y=some b):Tm ty .eql x y=some (.bool b):=by simp[Tm,hx,hy,h]
theorem eqT_bool (a b:Bool):Tm tyB .eql (.bool a) (.bool b)=some (.bool (a==b)):=by simp[Tm,tyB,KX]
theorem eqT_nbool (a b:Bool):Tm tyB .neq (.bool a) (.bool b)=some (.bool (!(a==b))):=by simp[Tm,tyB,KX]
attribute [go_sem] eqT_bool eqT_nbool
@[go_sem] theorem AVU (id id' k:Nat) (t t':TypeId):AKP (.ref id [] t) k (.ref id' [k] t')=true:=by simp[AKP]
end AM
end
section
open Go AM
def I64 (n:Int):Prop:= -9223372036854775808≤n∧n<9223372036854775808
end
end Go.Proofs.YtphoocnlpnnkdaaGreatDoor
