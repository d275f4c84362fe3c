/-
  Part of the proof of a statement about the given program: an abstract machine over its code, the simulation, its functions' equations, what they compute.
-/
import Derived.Test.YtoakaehjnbhgmaaGreatDoorMg12
import Derived.Test.YtoakaehjnbhgmaaGreatDoorMg19
import Derived.Test.YtoakaehjnbhgmaaGreatDoorMg21
import Derived.Test.YtoakaehjnbhgmaaGreatDoorMg23
import Derived.Test.YtoakaehjnbhgmaaGreatDoorMg4
import Derived.Test.YtoakaehjnbhgmaaGreatDoorMg6
set_option linter.unusedVariables false
set_option linter.unusedSimpArgs false
set_option linter.unusedSectionVars false
set_option maxRecDepth 100000
noncomputable section
namespace Go.Proofs.YtoakaehjnbhgmaaGreatDoor
section
open Go AM
theorem EP {f:TypeId→V→Bool} {t:TypeId} {ts:List TypeId} {vs:List V} (h:IL f (t::ts) vs=true):∃a us,vs=a::us∧f t a=true∧IL f ts us=true:=by
 match vs,h with
 |a::us,h=>simp only[IL,Bool.and_eq_true]at h;exact⟨a,us,rfl,h.1,h.2⟩
theorem TR {f:TypeId→V→Bool} {vs:List V} (h:IL f [] vs=true):vs=[]:=by
 match vs,h with
 |[],_=>rfl
theorem FP {n:Nat} {t:TypeId} {k:IntKind} {v:V} (hk:K P t= .scal) (hu:P.underlying t=some (.int k)) (h:okV P (n+1) t v=true):∃x:Int,v= .int k x∧k.min≤x∧x≤k.max:=by
 cases v<;>simp only[okV,hk,hu,Bool.false_eq_true,Bool.and_eq_true,decide_eq_true_eq,Lit.wf]at h
 obtain⟨rfl,h1,h2⟩:=h
 exact⟨_,rfl,h1,h2⟩
theorem AGR {n:Nat} {t:TypeId} {v:V} (hk:K P t= .scal) (hu:P.underlying t=some .string) (h:okV P (n+1) t v=true):∃s:List UInt8,v= .str s∧s.length<9223372036854775808:=by
 cases v<;>simp only[okV,hk,hu,Bool.false_eq_true,decide_eq_true_eq]at h
 rename_i s
 have:maxLen=9223372036854775807:=by decide
 exact⟨s,rfl,by omega⟩
theorem II {x:Int} (h1:(IntKind.i64).min≤x) (h2:x≤(IntKind.i64).max):I64 x:=by
 have e1:(IntKind.i64).min= -9223372036854775808:=by decide
 have e2:(IntKind.i64).max=9223372036854775807:=by decide
 simp only[I64];omega
theorem AAu {α:Type} {n:Nat} {t e:TypeId} {c:α→V} {p:α→Prop} {v:V} (hk:K P t= .slice e) (hd:∀v,okV P n e v=true→∃a,v=c a∧p a) (h:okV P (n+1) t v=true):
 ∃(f:Fl) (l:List α),v= .lst e f (l.map c)∧(∀a∈l,p a)∧l.length<9223372036854775808∧(f= .sh∨f= .nil):=by
 have all:∀xs:List V,xs.all (okV P n e)=true→∃l:List α,xs=l.map c∧∀a∈l,p a:=by
  intro xs
  induction xs with
  |nil=>intro _;exact⟨[],rfl,by simp⟩
  |cons x xs ih=>
   intro hx
   simp only[List.all_cons,Bool.and_eq_true]at hx
   obtain⟨a,rfl,ha⟩:=hd x hx.1
   obtain⟨l,rfl,hl⟩:=ih hx.2
   exact⟨a::l,rfl,fun b hb=>by rcases List.mem_cons.1 hb with rfl|hb;·exact ha
                               exact hl b hb⟩
 have hm:maxLen=9223372036854775807:=by decide
 cases v with
 |lst e' f xs=>
  cases f with
  |sh=>
   simp only[okV,hk,Bool.and_eq_true,decide_eq_true_eq]at h
   obtain⟨⟨rfl,hlen⟩,hx⟩:=h
   obtain⟨l,rfl,hl⟩:=all xs hx
   rw[List.length_map]at hlen
   exact⟨.sh,l,rfl,hl,by omega,Or.inl rfl⟩
  |nil=>simp[okV,hk]at h
  |own=>simp[okV,hk]at h
  |non=>simp[okV,hk]at h
  |lent=>simp[okV,hk]at h
 |_=>simp[okV,hk]at h
theorem JK {n:Nat} {t u:TypeId} {fs:List TypeId} {v:V} (hk:K P t= .struct u fs) (h:okV P (n+1) t v=true):∃xs,v= .agg u xs∧IL (okV P n) fs xs=true:=by
 cases v<;>simp only[okV,hk,Bool.false_eq_true,Bool.and_eq_true,decide_eq_true_eq]at h
 obtain⟨rfl,hx⟩:=h
 exact⟨_,rfl,hx⟩
end
section
open Go AM
def ALI (e:E0):Prop:=I64 e.fr∧I64 e.to∧I64 e.w
theorem AI5 {n:Nat} {v:V} (h:okV P (n+2) 96 v=true):∃e,v=IK e∧ALI e:=by
 obtain⟨xs,rfl,hx⟩:=JK AMG h
 obtain⟨a,us,rfl,ha,hx⟩:=EP hx
 obtain⟨b,us,rfl,hb,hx⟩:=EP hx
 obtain⟨c,us,rfl,hc,hx⟩:=EP hx
 obtain rfl:=TR hx
 obtain⟨x,rfl,x1,x2⟩:=FP K_3 OY ha
 obtain⟨y,rfl,y1,y2⟩:=FP K_3 OY hb
 obtain⟨z,rfl,z1,z2⟩:=FP K_2 AJk hc
 exact⟨⟨x,y,z⟩,rfl,II x1 x2,II y1 y2,II z1 z2⟩
end
section
open Go AM
theorem AGS {n:Nat} {v:V} (h:okV P (n+2) 26 v=true):∃j:Job,v=vJ j∧I64 j.src∧I64 j.steps∧j.tag.length<9223372036854775808:=by
 obtain⟨xs,rfl,hx⟩:=JK AMF h
 obtain⟨a,us,rfl,ha,hx⟩:=EP hx
 obtain⟨b,us,rfl,hb,hx⟩:=EP hx
 obtain⟨c,us,rfl,hc,hx⟩:=EP hx
 obtain rfl:=TR hx
 obtain⟨s,rfl,hs⟩:=AGR K_9 OZ ha
 obtain⟨x,rfl,x1,x2⟩:=FP K_3 OY hb
 obtain⟨y,rfl,y1,y2⟩:=FP K_3 OY hc
 exact⟨⟨s,x,y⟩,rfl,II x1 x2,II y1 y2,hs⟩
end
section
open Go AM
theorem decl {α:Type} {n:Nat} {t e:TypeId} {c:α→V} {p:α→Prop} {v:V} (hk:K P t= .slice e) (hd:∀v,okV P n e v=true→∃a,v=c a∧p a) (h:okV P (n+1) t v=true):
 ∃l:List α,v= .lst e .sh (l.map c)∧(∀a∈l,p a)∧l.length<9223372036854775808:=by
 obtain⟨f,l,rfl,h1,h2,rfl|rfl⟩:=AAu hk hd h
 ·exact⟨l,rfl,h1,h2⟩
 ·simp[okV,hk]at h
theorem ADj {n:Nat} {v:V} (h:okV P (n+4) 24 v=true):∃g:Grf,v=vG .sh g∧I64 g.n∧(∀e∈g.es,ALI e)∧g.es.length<9223372036854775808:=by
 obtain⟨xs,rfl,hx⟩:=JK AME h
 obtain⟨a,us,rfl,ha,hx⟩:=EP hx
 obtain⟨b,us,rfl,hb,hx⟩:=EP hx
 obtain rfl:=TR hx
 obtain⟨x,rfl,x1,x2⟩:=FP K_3 OY ha
 obtain⟨l,rfl,hl,hm⟩:=decl AMD (fun v h=>AI5 (n:=n) h) hb
 exact⟨⟨x,l⟩,rfl,II x1 x2,hl,hm⟩
end
section
open Go AM
theorem follows:P.follows .mixedOrders=true:=by kernel_rfl
theorem AI6:TJ P=true:=by kernel_rfl
theorem lay:Lay P:=AIy AI6
theorem ADk:Zd P=true:=by kernel_rfl
theorem AGT:ADf P DU=true:=by kernel_rfl
theorem AM7:(List.range' 0 40).all (J5 P DU)=true:=by kernel_rfl
theorem AM8:(List.range' 40 40).all (J5 P DU)=true:=by kernel_rfl
theorem AM9:(List.range' 80 40).all (J5 P DU)=true:=by kernel_rfl
theorem ANA:(List.range' 120 40).all (J5 P DU)=true:=by kernel_rfl
theorem ANB:(List.range' 160 40).all (J5 P DU)=true:=by kernel_rfl
theorem ANC:(List.range' 200 40).all (J5 P DU)=true:=by kernel_rfl
theorem ANE:(List.range' 240 40).all (J5 P DU)=true:=by kernel_rfl
theorem ANF:(List.range' 280 40).all (J5 P DU)=true:=by kernel_rfl
theorem ANG:(List.range' 320 40).all (J5 P DU)=true:=by kernel_rfl
theorem ANH:(List.range' 360 40).all (J5 P DU)=true:=by kernel_rfl
theorem size_le:P.funcs.size≤400:=of_decide_eq_true (by kernel_rfl)
theorem AGU:Ku P DU=true:=by
 simp only[Ku,List.all_eq_true,List.mem_range]
 intro f hf
 have hs:=size_le
 have go:∀{a:Nat},(List.range' a 40).all (J5 P DU)=true→a≤f→f<a+40→J5 P DU f=true:=fun h h1 h2=>List.all_eq_true.1 h f (List.mem_range'_1.2 ⟨h1,h2⟩)
 rcases Nat.lt_or_ge f 200 with h|h
 ·rcases Nat.lt_or_ge f 80 with h2|h2
  ·rcases Nat.lt_or_ge f 40 with h3|h3
   ·exact go AM7 (by omega) (by omega)
   ·exact go AM8 (by omega) (by omega)
  ·rcases Nat.lt_or_ge f 120 with h3|h3
   ·exact go AM9 (by omega) (by omega)
   ·rcases Nat.lt_or_ge f 160 with h4|h4
    ·exact go ANA (by omega) (by omega)
    ·exact go ANB (by omega) (by omega)
 ·rcases Nat.lt_or_ge f 280 with h2|h2
  ·rcases Nat.lt_or_ge f 240 with h3|h3
   ·exact go ANC (by omega) (by omega)
   ·exact go ANE (by omega) (by omega)
  ·rcases Nat.lt_or_ge f 320 with h3|h3
   ·exact go ANF (by omega) (by omega)
   ·rcases Nat.lt_or_ge f 360 with h4|h4
    ·exact go ANG (by omega) (by omega)
    ·exact go ANH (by omega) (by omega)
end
end Go.Proofs.YtoakaehjnbhgmaaGreatDoor
