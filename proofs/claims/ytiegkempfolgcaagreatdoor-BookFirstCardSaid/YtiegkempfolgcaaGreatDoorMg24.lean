/-
  Part of the proof of a statement about the given program: an abstract machine over its code, the simulation, its functions' equations, what they compute.
-/
import Derived.Test.YtiegkempfolgcaaGreatDoorMg12
import Derived.Test.YtiegkempfolgcaaGreatDoorMg19
import Derived.Test.YtiegkempfolgcaaGreatDoorMg21
import Derived.Test.YtiegkempfolgcaaGreatDoorMg23
import Derived.Test.YtiegkempfolgcaaGreatDoorMg4
import Derived.Test.YtiegkempfolgcaaGreatDoorMg6
set_option linter.unusedVariables false
set_option linter.unusedSimpArgs false
set_option linter.unusedSectionVars false
set_option maxRecDepth 100000
noncomputable section
namespace Go.Proofs.YtiegkempfolgcaaGreatDoor
section
open Go AM
theorem ET {f:TypeId→V→Bool} {t:TypeId} {ts:List TypeId} {vs:List V} (h:Gy f (t::ts) vs=true):∃a us,vs=a::us∧f t a=true∧Gy f ts us=true:=by
 match vs,h with
 |a::us,h=>simp only[Gy,Bool.and_eq_true]at h;exact⟨a,us,rfl,h.1,h.2⟩
theorem QW {f:TypeId→V→Bool} {vs:List V} (h:Gy f [] vs=true):vs=[]:=by
 match vs,h with
 |[],_=>rfl
theorem FN {n:Nat} {t:TypeId} {k:IntKind} {v:V} (hk:K P t= .scal) (hu:P.underlying t=some (.int k)) (h:okV P (n+1) t v=true):∃x:Int,v= .int k x∧k.min≤x∧x≤k.max:=by
 cases v<;>simp only[okV,hk,hu,Bool.false_eq_true,Bool.and_eq_true,decide_eq_true_eq,Lit.wf]at h
 obtain⟨rfl,h1,h2⟩:=h
 exact⟨_,rfl,h1,h2⟩
theorem ACS {n:Nat} {t:TypeId} {v:V} (hk:K P t= .scal) (hu:P.underlying t=some .string) (h:okV P (n+1) t v=true):∃s:List UInt8,v= .str s∧s.length<9223372036854775808:=by
 cases v<;>simp only[okV,hk,hu,Bool.false_eq_true,decide_eq_true_eq]at h
 rename_i s
 have:maxLen=9223372036854775807:=by decide
 exact⟨s,rfl,by omega⟩
theorem Gt {x:Int} (h1:(IntKind.i64).min≤x) (h2:x≤(IntKind.i64).max):I64 x:=by
 have e1:(IntKind.i64).min= -9223372036854775808:=by decide
 have e2:(IntKind.i64).max=9223372036854775807:=by decide
 simp only[I64];omega
theorem YC {α:Type} {n:Nat} {t e:TypeId} {c:α→V} {p:α→Prop} {v:V} (hk:K P t= .slice e) (hd:∀v,okV P n e v=true→∃a,v=c a∧p a) (h:okV P (n+1) t v=true):
 ∃(f:Fl) (l:List α),v= .lst e f (l.map c)∧(∀a∈l,p a)∧l.length<9223372036854775808∧(f= .sh∨f= .nil):=by
 have all:∀xs:List V,xs.all (okV P n e)=true→∃l:List α,xs=l.map c∧∀a∈l,p a:=by
  intro xs
  induction xs with
  |nil=>intro _;exact⟨[],rfl,by simp⟩
  |cons x xs ih=>
   intro hx
   simp only[List.all_cons,Bool.and_eq_true]at hx
   obtain⟨a,rfl,ha⟩:=hd x hx.1
   obtain⟨l,rfl,hl⟩:=ih hx.2
   exact⟨a::l,rfl,fun b hb=>by rcases List.mem_cons.1 hb with rfl|hb;·exact ha
                               exact hl b hb⟩
 have hm:maxLen=9223372036854775807:=by decide
 cases v with
 |lst e' f xs=>
  cases f with
  |sh=>
   simp only[okV,hk,Bool.and_eq_true,decide_eq_true_eq]at h
   obtain⟨⟨rfl,hlen⟩,hx⟩:=h
   obtain⟨l,rfl,hl⟩:=all xs hx
   rw[List.length_map]at hlen
   exact⟨.sh,l,rfl,hl,by omega,Or.inl rfl⟩
  |nil=>simp[okV,hk]at h
  |own=>simp[okV,hk]at h
  |non=>simp[okV,hk]at h
  |lent=>simp[okV,hk]at h
 |_=>simp[okV,hk]at h
theorem IX {n:Nat} {t u:TypeId} {fs:List TypeId} {v:V} (hk:K P t= .struct u fs) (h:okV P (n+1) t v=true):∃xs,v= .agg u xs∧Gy (okV P n) fs xs=true:=by
 cases v<;>simp only[okV,hk,Bool.false_eq_true,Bool.and_eq_true,decide_eq_true_eq]at h
 obtain⟨rfl,hx⟩:=h
 exact⟨_,rfl,hx⟩
end
section
open Go AM
def AGr (e:E0):Prop:=I64 e.fr∧I64 e.to∧I64 e.w
theorem AEh {n:Nat} {v:V} (h:okV P (n+2) 112 v=true):∃e,v=Gx e∧AGr e:=by
 obtain⟨xs,rfl,hx⟩:=IX AFM h
 obtain⟨a,us,rfl,ha,hx⟩:=ET hx
 obtain⟨b,us,rfl,hb,hx⟩:=ET hx
 obtain⟨c,us,rfl,hc,hx⟩:=ET hx
 obtain rfl:=QW hx
 obtain⟨x,rfl,x1,x2⟩:=FN K_3 OQ ha
 obtain⟨y,rfl,y1,y2⟩:=FN K_3 OQ hb
 obtain⟨z,rfl,z1,z2⟩:=FN K_2 AFK hc
 exact⟨⟨x,y,z⟩,rfl,Gt x1 x2,Gt y1 y2,Gt z1 z2⟩
end
section
open Go AM
theorem ACT {n:Nat} {v:V} (h:okV P (n+2) 26 v=true):∃j:Job,v=vJ j∧I64 j.src∧I64 j.steps∧j.tag.length<9223372036854775808:=by
 obtain⟨xs,rfl,hx⟩:=IX AHn h
 obtain⟨a,us,rfl,ha,hx⟩:=ET hx
 obtain⟨b,us,rfl,hb,hx⟩:=ET hx
 obtain⟨c,us,rfl,hc,hx⟩:=ET hx
 obtain rfl:=QW hx
 obtain⟨s,rfl,hs⟩:=ACS K_9 Yw ha
 obtain⟨x,rfl,x1,x2⟩:=FN K_3 OQ hb
 obtain⟨y,rfl,y1,y2⟩:=FN K_3 OQ hc
 exact⟨⟨s,x,y⟩,rfl,Gt x1 x2,Gt y1 y2,hs⟩
end
section
open Go AM
theorem decl {α:Type} {n:Nat} {t e:TypeId} {c:α→V} {p:α→Prop} {v:V} (hk:K P t= .slice e) (hd:∀v,okV P n e v=true→∃a,v=c a∧p a) (h:okV P (n+1) t v=true):
 ∃l:List α,v= .lst e .sh (l.map c)∧(∀a∈l,p a)∧l.length<9223372036854775808:=by
 obtain⟨f,l,rfl,h1,h2,rfl|rfl⟩:=YC hk hd h
 ·exact⟨l,rfl,h1,h2⟩
 ·simp[okV,hk]at h
theorem AAV {n:Nat} {v:V} (h:okV P (n+4) 24 v=true):∃g:Grf,v=vG .sh g∧I64 g.n∧(∀e∈g.es,AGr e)∧g.es.length<9223372036854775808:=by
 obtain⟨xs,rfl,hx⟩:=IX AHm h
 obtain⟨a,us,rfl,ha,hx⟩:=ET hx
 obtain⟨b,us,rfl,hb,hx⟩:=ET hx
 obtain rfl:=QW hx
 obtain⟨x,rfl,x1,x2⟩:=FN K_3 OQ ha
 obtain⟨l,rfl,hl,hm⟩:=decl AHl (fun v h=>AEh (n:=n) h) hb
 exact⟨⟨x,l⟩,rfl,Gt x1 x2,hl,hm⟩
end
section
open Go AM
theorem follows:P.follows .mixedOrders=true:=by kernel_rfl
theorem AEi:QO P=true:=by kernel_rfl
theorem lay:Lay P:=AEb AEi
theorem AAW:Wn P=true:=by kernel_rfl
theorem ACU:AAR P CZ=true:=by kernel_rfl
theorem ACV:Na P CZ=true:=by kernel_rfl
end
end Go.Proofs.YtiegkempfolgcaaGreatDoor
