/-
  Part of the proof of a statement about the given program: an abstract machine over its code, the simulation, its functions' equations, what they compute.
-/
import Derived.Test.YtiegkempfolgcaaGreatDoorMg12
import Derived.Test.YtiegkempfolgcaaGreatDoorMg20
import Derived.Test.YtiegkempfolgcaaGreatDoorMg22
import Derived.Test.YtiegkempfolgcaaGreatDoorMg24
import Derived.Test.YtiegkempfolgcaaGreatDoorMg4
import Derived.Test.YtiegkempfolgcaaGreatDoorMg6
set_option linter.unusedVariables false
set_option linter.unusedSimpArgs false
set_option linter.unusedSectionVars false
set_option maxRecDepth 100000
noncomputable section
namespace Go.Proofs.YtiegkempfolgcaaGreatDoor
section
open Go AM
theorem Ef {f:TypeId→V→Bool} {t:TypeId} {ts:List TypeId} {vs:List V} (h:JX f (t::ts) vs=true):∃a us,vs=a::us∧f t a=true∧JX f ts us=true:=by
 match vs,h with
 |a::us,h=>simp only[JX,Bool.and_eq_true]at h;exact⟨a,us,rfl,h.1,h.2⟩
theorem WR {f:TypeId→V→Bool} {vs:List V} (h:JX f [] vs=true):vs=[]:=by
 match vs,h with
 |[],_=>rfl
theorem GV {n:Nat} {t:TypeId} {k:IntKind} {v:V} (hk:K P t= .scal) (hu:P.underlying t=some (.int k)) (h:okV P (n+1) t v=true):∃x:Int,v= .int k x∧k.min≤x∧x≤k.max:=by
 cases v<;>simp only[okV,hk,hu,Bool.false_eq_true,Bool.and_eq_true,decide_eq_true_eq,Lit.wf]at h
 obtain⟨rfl,h1,h2⟩:=h
 exact⟨_,rfl,h1,h2⟩
theorem ADS {n:Nat} {t:TypeId} {v:V} (hk:K P t= .scal) (hu:P.underlying t=some .string) (h:okV P (n+1) t v=true):∃s:List UInt8,v= .str s∧s.length<9223372036854775808:=by
 cases v<;>simp only[okV,hk,hu,Bool.false_eq_true,decide_eq_true_eq]at h
 rename_i s
 have:maxLen=9223372036854775807:=by decide
 exact⟨s,rfl,by omega⟩
theorem JU {x:Int} (h1:(IntKind.i64).min≤x) (h2:x≤(IntKind.i64).max):I64 x:=by
 have e1:(IntKind.i64).min= -9223372036854775808:=by decide
 have e2:(IntKind.i64).max=9223372036854775807:=by decide
 simp only[I64];omega
theorem AEj {α:Type} {n:Nat} {t e:TypeId} {c:α→V} {p:α→Prop} {v:V} (hk:K P t= .slice e) (hd:∀v,okV P n e v=true→∃a,v=c a∧p a) (h:okV P (n+1) t v=true):
 ∃(f:Fl) (l:List α),v= .lst e f (l.map c)∧(∀a∈l,p a)∧l.length<9223372036854775808∧(f= .sh∨f= .nil):=by
 have all:∀xs:List V,xs.all (okV P n e)=true→∃l:List α,xs=l.map c∧∀a∈l,p a:=by
  intro xs
  induction xs with
  |nil=>intro _;exact⟨[],rfl,by simp⟩
  |cons x xs ih=>
   intro hx
   simp only[List.all_cons,Bool.and_eq_true]at hx
   obtain⟨a,rfl,ha⟩:=hd x hx.1
   obtain⟨l,rfl,hl⟩:=ih hx.2
   exact⟨a::l,rfl,fun b hb=>by rcases List.mem_cons.1 hb with rfl|hb;·exact ha
                               exact hl b hb⟩
 have hm:maxLen=9223372036854775807:=by decide
 cases v with
 |lst e' f xs=>
  cases f with
  |sh=>
   simp only[okV,hk,Bool.and_eq_true,decide_eq_true_eq]at h
   obtain⟨⟨rfl,hlen⟩,hx⟩:=h
   obtain⟨l,rfl,hl⟩:=all xs hx
   rw[List.length_map]at hlen
   exact⟨.sh,l,rfl,hl,by omega,Or.inl rfl⟩
  |nil=>simp[okV,hk]at h
  |own=>simp[okV,hk]at h
  |non=>simp[okV,hk]at h
  |lent=>simp[okV,hk]at h
 |_=>simp[okV,hk]at h
theorem KQ {n:Nat} {t u:TypeId} {fs:List TypeId} {v:V} (hk:K P t= .struct u fs) (h:okV P (n+1) t v=true):∃xs,v= .agg u xs∧JX (okV P n) fs xs=true:=by
 cases v<;>simp only[okV,hk,Bool.false_eq_true,Bool.and_eq_true,decide_eq_true_eq]at h
 obtain⟨rfl,hx⟩:=h
 exact⟨_,rfl,hx⟩
end
section
open Go AM
def ARf (e:E0):Prop:=I64 e.fr∧I64 e.to∧I64 e.w
theorem APB {n:Nat} {v:V} (h:okV P (n+2) 112 v=true):∃e,v=Ql e∧ARf e:=by
 obtain⟨xs,rfl,hx⟩:=KQ APt h
 obtain⟨a,us,rfl,ha,hx⟩:=Ef hx
 obtain⟨b,us,rfl,hb,hx⟩:=Ef hx
 obtain⟨c,us,rfl,hc,hx⟩:=Ef hx
 obtain rfl:=WR hx
 obtain⟨x,rfl,x1,x2⟩:=GV K_3 IG ha
 obtain⟨y,rfl,y1,y2⟩:=GV K_3 IG hb
 obtain⟨z,rfl,z1,z2⟩:=GV K_2 ACc hc
 exact⟨⟨x,y,z⟩,rfl,JU x1 x2,JU y1 y2,JU z1 z2⟩
end
section
open Go AM
theorem ALd {n:Nat} {v:V} (h:okV P (n+2) 26 v=true):∃j:Job,v=vJ j∧I64 j.src∧I64 j.steps∧j.tag.length<9223372036854775808:=by
 obtain⟨xs,rfl,hx⟩:=KQ ASg h
 obtain⟨a,us,rfl,ha,hx⟩:=Ef hx
 obtain⟨b,us,rfl,hb,hx⟩:=Ef hx
 obtain⟨c,us,rfl,hc,hx⟩:=Ef hx
 obtain rfl:=WR hx
 obtain⟨s,rfl,hs⟩:=ADS K_9 EJ ha
 obtain⟨x,rfl,x1,x2⟩:=GV K_3 IG hb
 obtain⟨y,rfl,y1,y2⟩:=GV K_3 IG hc
 exact⟨⟨s,x,y⟩,rfl,JU x1 x2,JU y1 y2,hs⟩
end
section
open Go AM
theorem decl {α:Type} {n:Nat} {t e:TypeId} {c:α→V} {p:α→Prop} {v:V} (hk:K P t= .slice e) (hd:∀v,okV P n e v=true→∃a,v=c a∧p a) (h:okV P (n+1) t v=true):
 ∃l:List α,v= .lst e .sh (l.map c)∧(∀a∈l,p a)∧l.length<9223372036854775808:=by
 obtain⟨f,l,rfl,h1,h2,rfl|rfl⟩:=AEj hk hd h
 ·exact⟨l,rfl,h1,h2⟩
 ·simp[okV,hk]at h
theorem AIl {n:Nat} {v:V} (h:okV P (n+2) 58 v=true):∃l:List (List UInt8),v=sS l∧l.length<9223372036854775808:=by
 obtain⟨l,rfl,_,hl⟩:=decl (p:=fun _=>True) AJg (fun v h=>by obtain⟨s,rfl,_⟩:=ADS (n:=n) K_9 EJ h;exact⟨s,rfl,trivial⟩) h
 exact⟨l,rfl,hl⟩
theorem AIm {n:Nat} {v:V} (h:okV P (n+4) 24 v=true):∃g:Grf,v=vG .sh g∧I64 g.n∧(∀e∈g.es,ARf e)∧g.es.length<9223372036854775808:=by
 obtain⟨xs,rfl,hx⟩:=KQ ASf h
 obtain⟨a,us,rfl,ha,hx⟩:=Ef hx
 obtain⟨b,us,rfl,hb,hx⟩:=Ef hx
 obtain rfl:=WR hx
 obtain⟨x,rfl,x1,x2⟩:=GV K_3 IG ha
 obtain⟨l,rfl,hl,hm⟩:=decl ASe (fun v h=>APB (n:=n) h) hb
 exact⟨⟨x,l⟩,rfl,JU x1 x2,hl,hm⟩
end
section
open Go AM
theorem follows:P.follows .mixedOrders=true:=by kernel_rfl
theorem APC:WJ P=true:=by kernel_rfl
theorem lay:Lay P:=AO5 APC
theorem AIn:ADR P=true:=by kernel_rfl
theorem ALe:AIh P DZ=true:=by kernel_rfl
theorem ALf:Rz P DZ=true:=by kernel_rfl
end
end Go.Proofs.YtiegkempfolgcaaGreatDoor
