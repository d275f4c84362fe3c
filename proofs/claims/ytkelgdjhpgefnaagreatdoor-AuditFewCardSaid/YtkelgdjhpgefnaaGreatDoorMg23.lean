/-
  Part of the proof of a statement about the given program: an abstract machine over its code, the simulation, its functions' equations, what they compute.
-/
import Derived.Test.YtkelgdjhpgefnaaGreatDoorMg17
import Derived.Test.YtkelgdjhpgefnaaGreatDoorMg20
import Derived.Test.YtkelgdjhpgefnaaGreatDoorMg22
import Derived.Test.YtkelgdjhpgefnaaGreatDoorMg5
import Derived.Test.YtkelgdjhpgefnaaGreatDoorMg6
import Derived.Test.YtkelgdjhpgefnaaGreatDoorMg8
set_option linter.unusedVariables false
set_option linter.unusedSimpArgs false
set_option linter.unusedSectionVars false
set_option maxRecDepth 100000
noncomputable section
namespace Go.Proofs.YtkelgdjhpgefnaaGreatDoor
section
open Go AM
theorem RG {f:TypeId→V→Bool} {t:TypeId} {ts:List TypeId} {vs:List V} (h:Gy f (t::ts) vs=true):∃a us,vs=a::us∧f t a=true∧Gy f ts us=true:=by
 match vs,h with
 |a::us,h=>simp only[Gy,Bool.and_eq_true]at h;exact⟨a,us,rfl,h.1,h.2⟩
theorem AAZ {f:TypeId→V→Bool} {vs:List V} (h:Gy f [] vs=true):vs=[]:=by
 match vs,h with
 |[],_=>rfl
theorem Nz {n:Nat} {t:TypeId} {k:IntKind} {v:V} (hk:K P t= .scal) (hu:P.underlying t=some (.int k)) (h:okV P (n+1) t v=true):∃x:Int,v= .int k x∧k.min≤x∧x≤k.max:=by
 cases v<;>simp only[okV,hk,hu,Bool.false_eq_true,Bool.and_eq_true,decide_eq_true_eq,Lit.wf]at h
 obtain⟨rfl,h1,h2⟩:=h
 exact⟨_,rfl,h1,h2⟩
theorem Uo {α:Type} {n:Nat} {t e:TypeId} {c:α→V} {p:α→Prop} {v:V} (hk:K P t= .slice e) (hd:∀v,okV P n e v=true→∃a,v=c a∧p a) (h:okV P (n+1) t v=true):
 ∃(f:Fl) (l:List α),v= .lst e f (l.map c)∧(∀a∈l,p a)∧l.length<9223372036854775808∧(f= .sh∨f= .nil):=by
 have all:∀xs:List V,xs.all (okV P n e)=true→∃l:List α,xs=l.map c∧∀a∈l,p a:=by
  intro xs
  induction xs with
  |nil=>intro _;exact⟨[],rfl,by simp⟩
  |cons x xs ih=>
   intro hx
   simp only[List.all_cons,Bool.and_eq_true]at hx
   obtain⟨a,rfl,ha⟩:=hd x hx.1
   obtain⟨l,rfl,hl⟩:=ih hx.2
   exact⟨a::l,rfl,fun b hb=>by rcases List.mem_cons.1 hb with rfl|hb;·exact ha
                               exact hl b hb⟩
 have hm:maxLen=9223372036854775807:=by decide
 cases v with
 |lst e' f xs=>
  cases f with
  |sh=>
   simp only[okV,hk,Bool.and_eq_true,decide_eq_true_eq]at h
   obtain⟨⟨rfl,hlen⟩,hx⟩:=h
   obtain⟨l,rfl,hl⟩:=all xs hx
   rw[List.length_map]at hlen
   exact⟨.sh,l,rfl,hl,by omega,Or.inl rfl⟩
  |nil=>simp[okV,hk]at h
  |own=>simp[okV,hk]at h
  |non=>simp[okV,hk]at h
  |lent=>simp[okV,hk]at h
 |_=>simp[okV,hk]at h
theorem decl {α:Type} {n:Nat} {t e:TypeId} {c:α→V} {p:α→Prop} {v:V} (hk:K P t= .slice e) (hd:∀v,okV P n e v=true→∃a,v=c a∧p a) (h:okV P (n+1) t v=true):
 ∃l:List α,v= .lst e .sh (l.map c)∧(∀a∈l,p a)∧l.length<9223372036854775808:=by
 obtain⟨f,l,rfl,h1,h2,rfl|rfl⟩:=Uo hk hd h
 ·exact⟨l,rfl,h1,h2⟩
 ·simp[okV,hk]at h
end
section
open Go AM
theorem follows:P.follows .mixedOrders=true:=by kernel_rfl
theorem AAa:Np P=true:=by kernel_rfl
theorem lay:Lay P:=AAR AAa
theorem XU:TP P=true:=by kernel_rfl
theorem Y5:XP P EQ=true:=by kernel_rfl
theorem AD1:(List.range' 0 40).all (IB P EQ)=true:=by kernel_rfl
theorem AD2:(List.range' 40 40).all (IB P EQ)=true:=by kernel_rfl
theorem AD3:(List.range' 80 40).all (IB P EQ)=true:=by kernel_rfl
theorem AD4:(List.range' 120 40).all (IB P EQ)=true:=by kernel_rfl
theorem AD5:(List.range' 160 40).all (IB P EQ)=true:=by kernel_rfl
theorem AD6:(List.range' 200 40).all (IB P EQ)=true:=by kernel_rfl
theorem AD7:(List.range' 240 40).all (IB P EQ)=true:=by kernel_rfl
theorem AD8:(List.range' 280 40).all (IB P EQ)=true:=by kernel_rfl
theorem AD9:(List.range' 320 40).all (IB P EQ)=true:=by kernel_rfl
theorem AEA:(List.range' 360 40).all (IB P EQ)=true:=by kernel_rfl
theorem size_le:P.funcs.size≤400:=of_decide_eq_true (by kernel_rfl)
theorem Y6:Ii P EQ=true:=by
 simp only[Ii,List.all_eq_true,List.mem_range]
 intro f hf
 have hs:=size_le
 have go:∀{a:Nat},(List.range' a 40).all (IB P EQ)=true→a≤f→f<a+40→IB P EQ f=true:=fun h h1 h2=>List.all_eq_true.1 h f (List.mem_range'_1.2 ⟨h1,h2⟩)
 rcases Nat.lt_or_ge f 200 with h|h
 ·rcases Nat.lt_or_ge f 80 with h2|h2
  ·rcases Nat.lt_or_ge f 40 with h3|h3
   ·exact go AD1 (by omega) (by omega)
   ·exact go AD2 (by omega) (by omega)
  ·rcases Nat.lt_or_ge f 120 with h3|h3
   ·exact go AD3 (by omega) (by omega)
   ·rcases Nat.lt_or_ge f 160 with h4|h4
    ·exact go AD4 (by omega) (by omega)
    ·exact go AD5 (by omega) (by omega)
 ·rcases Nat.lt_or_ge f 280 with h2|h2
  ·rcases Nat.lt_or_ge f 240 with h3|h3
   ·exact go AD6 (by omega) (by omega)
   ·exact go AD7 (by omega) (by omega)
  ·rcases Nat.lt_or_ge f 320 with h3|h3
   ·exact go AD8 (by omega) (by omega)
   ·rcases Nat.lt_or_ge f 360 with h4|h4
    ·exact go AD9 (by omega) (by omega)
    ·exact go AEA (by omega) (by omega)
end
end Go.Proofs.YtkelgdjhpgefnaaGreatDoor
