/-
  Part of the proof of a statement about the given program: an abstract machine over its code, the simulation, its functions' equations, what they compute.
-/
import Derived.Test.YtiegkempfolgcaaGreatDoorMg12
import Derived.Test.YtiegkempfolgcaaGreatDoorMg13
import Derived.Test.YtiegkempfolgcaaGreatDoorMg20
import Derived.Test.YtiegkempfolgcaaGreatDoorMg22
import Derived.Test.YtiegkempfolgcaaGreatDoorMg24
import Derived.Test.YtiegkempfolgcaaGreatDoorMg4
import Derived.Test.YtiegkempfolgcaaGreatDoorMg6
set_option linter.unusedVariables false
set_option linter.unusedSimpArgs false
set_option linter.unusedSectionVars false
set_option maxRecDepth 100000
noncomputable section
namespace Go.Proofs.YtiegkempfolgcaaGreatDoor
section
open Go AM
theorem Bf {f:TypeId→V→Bool} {t:TypeId} {ts:List TypeId} {vs:List V} (h:JV f (t::ts) vs=true):∃a us,vs=a::us∧f t a=true∧JV f ts us=true:=by
 match vs,h with
 |a::us,h=>simp only[JV,Bool.and_eq_true]at h;exact⟨a,us,rfl,h.1,h.2⟩
theorem I5 {f:TypeId→V→Bool} {vs:List V} (h:JV f [] vs=true):vs=[]:=by
 match vs,h with
 |[],_=>rfl
theorem DL {n:Nat} {t:TypeId} {k:IntKind} {v:V} (hk:K P t= .scal) (hu:P.underlying t=some (.int k)) (h:okV P (n+1) t v=true):∃x:Int,v= .int k x∧k.min≤x∧x≤k.max:=by
 cases v<;>simp only[okV,hk,hu,Bool.false_eq_true,Bool.and_eq_true,decide_eq_true_eq,Lit.wf]at h
 obtain⟨rfl,h1,h2⟩:=h
 exact⟨_,rfl,h1,h2⟩
theorem ABz {n:Nat} {t:TypeId} {v:V} (hk:K P t= .scal) (hu:P.underlying t=some .string) (h:okV P (n+1) t v=true):∃s:List UInt8,v= .str s∧s.length<9223372036854775808:=by
 cases v<;>simp only[okV,hk,hu,Bool.false_eq_true,decide_eq_true_eq]at h
 rename_i s
 have:maxLen=9223372036854775807:=by decide
 exact⟨s,rfl,by omega⟩
theorem AHC {n:Nat} {t:TypeId} {v:V} (hk:K P t= .scal) (hu:P.underlying t=some .bool) (h:okV P (n+1) t v=true):∃b:Bool,v= .bool b:=by
 cases v<;>simp only[okV,hk,hu,Bool.false_eq_true]at h
 exact⟨_,rfl⟩
theorem Es {x:Int} (h1:(IntKind.i64).min≤x) (h2:x≤(IntKind.i64).max):I64 x:=by
 have e1:(IntKind.i64).min= -9223372036854775808:=by decide
 have e2:(IntKind.i64).max=9223372036854775807:=by decide
 simp only[I64];omega
theorem AMv {x:Int} (h1:(IntKind.u8).min≤x) (h2:x≤(IntKind.u8).max):∃a:Nat,x=(a:Int)∧a<256:=by
 have e1:(IntKind.u8).min=0:=by decide
 have e2:(IntKind.u8).max=255:=by decide
 exact⟨x.toNat,by omega,by omega⟩
theorem Tq {α:Type} {n:Nat} {t e:TypeId} {c:α→V} {p:α→Prop} {v:V} (hk:K P t= .slice e) (hd:∀v,okV P n e v=true→∃a,v=c a∧p a) (h:okV P (n+1) t v=true):
 ∃(f:Fl) (l:List α),v= .lst e f (l.map c)∧(∀a∈l,p a)∧l.length<9223372036854775808∧(f= .sh∨f= .nil):=by
 have all:∀xs:List V,xs.all (okV P n e)=true→∃l:List α,xs=l.map c∧∀a∈l,p a:=by
  intro xs
  induction xs with
  |nil=>intro _;exact⟨[],rfl,by simp⟩
  |cons x xs ih=>
   intro hx
   simp only[List.all_cons,Bool.and_eq_true]at hx
   obtain⟨a,rfl,ha⟩:=hd x hx.1
   obtain⟨l,rfl,hl⟩:=ih hx.2
   exact⟨a::l,rfl,fun b hb=>by rcases List.mem_cons.1 hb with rfl|hb;·exact ha
                               exact hl b hb⟩
 have hm:maxLen=9223372036854775807:=by decide
 cases v with
 |lst e' f xs=>
  cases f with
  |sh=>
   simp only[okV,hk,Bool.and_eq_true,decide_eq_true_eq]at h
   obtain⟨⟨rfl,hlen⟩,hx⟩:=h
   obtain⟨l,rfl,hl⟩:=all xs hx
   rw[List.length_map]at hlen
   exact⟨.sh,l,rfl,hl,by omega,Or.inl rfl⟩
  |nil=>simp[okV,hk]at h
  |own=>simp[okV,hk]at h
  |non=>simp[okV,hk]at h
  |lent=>simp[okV,hk]at h
 |_=>simp[okV,hk]at h
theorem ED {n:Nat} {t u:TypeId} {fs:List TypeId} {v:V} (hk:K P t= .struct u fs) (h:okV P (n+1) t v=true):∃xs,v= .agg u xs∧JV (okV P n) fs xs=true:=by
 cases v<;>simp only[okV,hk,Bool.false_eq_true,Bool.and_eq_true,decide_eq_true_eq]at h
 obtain⟨rfl,hx⟩:=h
 exact⟨_,rfl,hx⟩
theorem ADN {α:Type} {n m:Nat} {t u e:TypeId} {c:α→V} {p:α→Prop} {v:V} (hk:K P t= .array u m e) (hd:∀v,okV P n e v=true→∃a,v=c a∧p a) (h:okV P (n+1) t v=true):
 ∃l:List α,v= .agg u (l.map c)∧(∀a∈l,p a)∧l.length=m:=by
 have all:∀xs:List V,xs.all (okV P n e)=true→∃l:List α,xs=l.map c∧∀a∈l,p a:=by
  intro xs
  induction xs with
  |nil=>intro _;exact⟨[],rfl,by simp⟩
  |cons x xs ih=>
   intro hx
   simp only[List.all_cons,Bool.and_eq_true]at hx
   obtain⟨a,rfl,ha⟩:=hd x hx.1
   obtain⟨l,rfl,hl⟩:=ih hx.2
   exact⟨a::l,rfl,fun b hb=>by rcases List.mem_cons.1 hb with rfl|hb;·exact ha
                               exact hl b hb⟩
 cases v<;>simp only[okV,hk,Bool.false_eq_true,Bool.and_eq_true,decide_eq_true_eq]at h
 rename_i u' xs
 obtain⟨⟨rfl,hlen⟩,hx⟩:=h
 obtain⟨l,rfl,hl⟩:=all xs hx
 rw[List.length_map]at hlen
 exact⟨l,rfl,hl,hlen⟩
theorem AMw {n:Nat} {v:V} (h:okV P (n+1) 5 v=true):∃a:Nat,v= .int .u8 (a:Int)∧a<256:=by
 obtain⟨x,rfl,x1,x2⟩:=DL K_5 PO h
 obtain⟨a,rfl,ha⟩:=AMv x1 x2
 exact⟨a,rfl,ha⟩
end
section
open Go AM
theorem AJg {n:Nat} {v:V} (h:okV P (n+2) 108 v=true):∃m,v=Ac m∧Y7 m:=by
 obtain⟨xs,rfl,hx⟩:=ED Ru h
 obtain⟨a,us,rfl,ha,hx⟩:=Bf hx
 obtain⟨b,us,rfl,hb,hx⟩:=Bf hx
 obtain⟨c,us,rfl,hc,hx⟩:=Bf hx
 obtain rfl:=I5 hx
 obtain⟨x,rfl,x1,x2⟩:=DL K_3 FB ha
 obtain⟨y,rfl,y1,y2⟩:=DL K_3 FB hb
 obtain⟨z,rfl,z1,z2⟩:=DL K_2 WX hc
 exact⟨⟨x,y,z⟩,rfl,Es x1 x2,Es y1 y2,Es z1 z2⟩
theorem YC {n:Nat} {v:V} (h:okV P (n+3) 31 v=true):∃(f:Fl) (l:List Msg),v= .lst 108 f (l.map Ac)∧(∀m∈l,Y7 m)∧l.length<9223372036854775808∧(f= .sh∨f= .nil):=
 Tq PS (fun v h=>AJg h) h
end
section
open Go AM
def APU (e:E0):Prop:=I64 e.fr∧I64 e.to∧I64 e.w
theorem AMx {n:Nat} {v:V} (h:okV P (n+2) 112 v=true):∃e,v=Pv e∧APU e:=by
 obtain⟨xs,rfl,hx⟩:=ED ANl h
 obtain⟨a,us,rfl,ha,hx⟩:=Bf hx
 obtain⟨b,us,rfl,hb,hx⟩:=Bf hx
 obtain⟨c,us,rfl,hc,hx⟩:=Bf hx
 obtain rfl:=I5 hx
 obtain⟨x,rfl,x1,x2⟩:=DL K_3 FB ha
 obtain⟨y,rfl,y1,y2⟩:=DL K_3 FB hb
 obtain⟨z,rfl,z1,z2⟩:=DL K_2 WX hc
 exact⟨⟨x,y,z⟩,rfl,Es x1 x2,Es y1 y2,Es z1 z2⟩
end
section
open Go AM
theorem AJh {n:Nat} {v:V} (h:okV P (n+2) 26 v=true):∃j:Job,v=vJ j∧I64 j.src∧I64 j.steps∧j.tag.length<9223372036854775808:=by
 obtain⟨xs,rfl,hx⟩:=ED AQM h
 obtain⟨a,us,rfl,ha,hx⟩:=Bf hx
 obtain⟨b,us,rfl,hb,hx⟩:=Bf hx
 obtain⟨c,us,rfl,hc,hx⟩:=Bf hx
 obtain rfl:=I5 hx
 obtain⟨s,rfl,hs⟩:=ABz K_9 GH ha
 obtain⟨x,rfl,x1,x2⟩:=DL K_3 FB hb
 obtain⟨y,rfl,y1,y2⟩:=DL K_3 FB hc
 exact⟨⟨s,x,y⟩,rfl,Es x1 x2,Es y1 y2,hs⟩
end
section
open Go AM
theorem decl {α:Type} {n:Nat} {t e:TypeId} {c:α→V} {p:α→Prop} {v:V} (hk:K P t= .slice e) (hd:∀v,okV P n e v=true→∃a,v=c a∧p a) (h:okV P (n+1) t v=true):
 ∃l:List α,v= .lst e .sh (l.map c)∧(∀a∈l,p a)∧l.length<9223372036854775808:=by
 obtain⟨f,l,rfl,h1,h2,rfl|rfl⟩:=Tq hk hd h
 ·exact⟨l,rfl,h1,h2⟩
 ·simp[okV,hk]at h
theorem YD {n:Nat} {v:V} (h:okV P (n+2) 58 v=true):∃l:List (List UInt8),v=sS l∧l.length<9223372036854775808:=by
 obtain⟨l,rfl,_,hl⟩:=decl (p:=fun _=>True) AHw (fun v h=>by obtain⟨s,rfl,_⟩:=ABz (n:=n) K_9 GH h;exact⟨s,rfl,trivial⟩) h
 exact⟨l,rfl,hl⟩
theorem AHD {n:Nat} {v:V} (h:okV P (n+4) 24 v=true):∃g:Grf,v=vG .sh g∧I64 g.n∧(∀e∈g.es,APU e)∧g.es.length<9223372036854775808:=by
 obtain⟨xs,rfl,hx⟩:=ED AQL h
 obtain⟨a,us,rfl,ha,hx⟩:=Bf hx
 obtain⟨b,us,rfl,hb,hx⟩:=Bf hx
 obtain rfl:=I5 hx
 obtain⟨x,rfl,x1,x2⟩:=DL K_3 FB ha
 obtain⟨l,rfl,hl,hm⟩:=decl AQK (fun v h=>AMx (n:=n) h) hb
 exact⟨⟨x,l⟩,rfl,Es x1 x2,hl,hm⟩
end
section
open Go AM
theorem ADO {n:Nat} {v:V} (h:okV P (n+1) 5 v=true):∃x:UInt8,v= .int .u8 (x.toNat:Int)∧True:=by
 obtain⟨a,rfl,ha⟩:=AMw h
 exact⟨UInt8.ofNat a,by rw[UInt8.toNat_ofNat_of_lt' ha],trivial⟩
theorem MO {n:Nat} {v:V} (h:okV P (n+2) 55 v=true):∃x:List UInt8,v=Au x∧x.length=32:=by
 obtain⟨l,rfl,_,hl⟩:=ADN (c:=fun x:UInt8=>V.int .u8 (x.toNat:Int)) (p:=fun _=>True) AHv (fun v h=>ADO h) h
 exact⟨l,rfl,hl⟩
theorem AHE {n:Nat} {v:V} (h:okV P (n+5) 33 v=true):∃b,v=vB b∧AMh b:=by
 obtain⟨xs,rfl,hx⟩:=ED ANh h
 obtain⟨a,us,rfl,ha,hx⟩:=Bf hx
 obtain⟨g,us,rfl,hg,hx⟩:=Bf hx
 obtain⟨r,us,rfl,hr,hx⟩:=Bf hx
 obtain⟨k,us,rfl,hk,hx⟩:=Bf hx
 obtain⟨s,us,rfl,hs,hx⟩:=Bf hx
 obtain rfl:=I5 hx
 obtain⟨x,rfl,x1,x2⟩:=DL K_3 FB ha
 obtain⟨gl,rfl,_,_⟩:=decl (p:=fun _=>True) ANf (fun v h=>by obtain⟨b,rfl⟩:=AHC K_4 AJw h;exact⟨b,rfl,trivial⟩) hg
 obtain⟨rl,rfl,r1,_⟩:=decl ANg (fun v h=>MO (n:=n+1) h) hr
 obtain⟨kl,rfl,k1,k2⟩:=decl AQN (fun v h=>YD (n:=n+1) h) hk
 obtain⟨f,sl,rfl,s1,_,rfl|rfl⟩:=YC (n:=n+1) hs
 ·exact⟨⟨x,gl,rl,kl,sl⟩,rfl,Es x1 x2,r1,k2,k1,s1⟩
 ·simp[okV,PS]at hs
theorem AMy {n:Nat} {v:V} (h:okV P (n+6) 60 v=true):∃x,v=Be x∧AMi x:=by
 obtain⟨xs,rfl,hx⟩:=ED AQQ h
 obtain⟨e,us,rfl,he,hx⟩:=Bf hx
 obtain⟨p,us,rfl,hp,hx⟩:=Bf hx
 obtain⟨c,us,rfl,hc,hx⟩:=Bf hx
 obtain⟨s,us,rfl,hs,hx⟩:=Bf hx
 obtain⟨k,us,rfl,hk,hx⟩:=Bf hx
 obtain rfl:=I5 hx
 obtain⟨ei,rfl,_,_⟩:=DL ANi AE9 he
 obtain⟨pi,rfl,_,_⟩:=DL K_3 FB hp
 obtain⟨f,sl,rfl,s1,_,hf⟩:=YC (n:=n+2) hs
 obtain⟨kl,rfl,k2⟩:=YD (n:=n+3) hk
 obtain⟨ys,rfl,hy⟩:=ED AQP hc
 obtain⟨a1,us,rfl,h1,hy⟩:=Bf hy
 obtain⟨a2,us,rfl,h2,hy⟩:=Bf hy
 obtain⟨a3,us,rfl,h3,hy⟩:=Bf hy
 obtain⟨a4,us,rfl,h4,hy⟩:=Bf hy
 obtain rfl:=I5 hy
 obtain⟨wi,rfl,_,_⟩:=DL K_3 FB h1
 obtain⟨si,rfl,_,_⟩:=DL K_3 FB h2
 obtain⟨ri,rfl,r1⟩:=MO (n:=n+2) h3
 obtain⟨bl,rfl,_,_⟩:=decl ANg (fun v h=>MO (n:=n+1) h) h4
 rcases hf with rfl|rfl
 ·exact⟨⟨ei,pi,wi,si,ri,bl,sl,kl⟩,rfl,r1,k2,s1⟩
 ·simp[okV,PS]at hs
end
section
open Go AM
theorem follows:P.follows .mixedOrders=true:=by kernel_rfl
theorem AMz:VT P=true:=by kernel_rfl
theorem lay:Lay P:=AMp AMz
theorem AHF:ABy P=true:=by kernel_rfl
theorem AJi:AG8 P Dn=true:=by kernel_rfl
theorem AJj:Qj P Dn=true:=by kernel_rfl
end
end Go.Proofs.YtiegkempfolgcaaGreatDoor
