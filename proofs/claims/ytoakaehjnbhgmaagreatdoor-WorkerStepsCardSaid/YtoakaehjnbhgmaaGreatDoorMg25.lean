/-
  Part of the proof of a statement about the given program: an abstract machine over its code, the simulation, its functions' equations, what they compute.
-/
import Derived.Test.YtoakaehjnbhgmaaGreatDoorMg12
import Derived.Test.YtoakaehjnbhgmaaGreatDoorMg20
import Derived.Test.YtoakaehjnbhgmaaGreatDoorMg22
import Derived.Test.YtoakaehjnbhgmaaGreatDoorMg24
import Derived.Test.YtoakaehjnbhgmaaGreatDoorMg4
import Derived.Test.YtoakaehjnbhgmaaGreatDoorMg6
import Derived.Test.YtoakaehjnbhgmaaGreatDoorMg9
set_option linter.unusedVariables false
set_option linter.unusedSimpArgs false
set_option linter.unusedSectionVars false
set_option maxRecDepth 100000
noncomputable section
namespace Go.Proofs.YtoakaehjnbhgmaaGreatDoor
section
open Go AM
theorem D5 {f:TypeId→V→Bool} {t:TypeId} {ts:List TypeId} {vs:List V} (h:JY f (t::ts) vs=true):∃a us,vs=a::us∧f t a=true∧JY f ts us=true:=by
 match vs,h with
 |a::us,h=>simp only[JY,Bool.and_eq_true]at h;exact⟨a,us,rfl,h.1,h.2⟩
theorem Rw {f:TypeId→V→Bool} {vs:List V} (h:JY f [] vs=true):vs=[]:=by
 match vs,h with
 |[],_=>rfl
theorem EF {n:Nat} {t:TypeId} {k:IntKind} {v:V} (hk:K P t= .scal) (hu:P.underlying t=some (.int k)) (h:okV P (n+1) t v=true):∃x:Int,v= .int k x∧k.min≤x∧x≤k.max:=by
 cases v<;>simp only[okV,hk,hu,Bool.false_eq_true,Bool.and_eq_true,decide_eq_true_eq,Lit.wf]at h
 obtain⟨rfl,h1,h2⟩:=h
 exact⟨_,rfl,h1,h2⟩
theorem AKI {n:Nat} {t:TypeId} {v:V} (hk:K P t= .scal) (hu:P.underlying t=some .string) (h:okV P (n+1) t v=true):∃s:List UInt8,v= .str s∧s.length<9223372036854775808:=by
 cases v<;>simp only[okV,hk,hu,Bool.false_eq_true,decide_eq_true_eq]at h
 rename_i s
 have:maxLen=9223372036854775807:=by decide
 exact⟨s,rfl,by omega⟩
theorem FT {x:Int} (h1:(IntKind.i64).min≤x) (h2:x≤(IntKind.i64).max):I64 x:=by
 have e1:(IntKind.i64).min= -9223372036854775808:=by decide
 have e2:(IntKind.i64).max=9223372036854775807:=by decide
 simp only[I64];omega
theorem ADq {α:Type} {n:Nat} {t e:TypeId} {c:α→V} {p:α→Prop} {v:V} (hk:K P t= .slice e) (hd:∀v,okV P n e v=true→∃a,v=c a∧p a) (h:okV P (n+1) t v=true):
 ∃(f:Fl) (l:List α),v= .lst e f (l.map c)∧(∀a∈l,p a)∧l.length<9223372036854775808∧(f= .sh∨f= .nil):=by
 have all:∀xs:List V,xs.all (okV P n e)=true→∃l:List α,xs=l.map c∧∀a∈l,p a:=by
  intro xs
  induction xs with
  |nil=>intro _;exact⟨[],rfl,by simp⟩
  |cons x xs ih=>
   intro hx
   simp only[List.all_cons,Bool.and_eq_true]at hx
   obtain⟨a,rfl,ha⟩:=hd x hx.1
   obtain⟨l,rfl,hl⟩:=ih hx.2
   exact⟨a::l,rfl,fun b hb=>by rcases List.mem_cons.1 hb with rfl|hb;·exact ha
                               exact hl b hb⟩
 have hm:maxLen=9223372036854775807:=by decide
 cases v with
 |lst e' f xs=>
  cases f with
  |sh=>
   simp only[okV,hk,Bool.and_eq_true,decide_eq_true_eq]at h
   obtain⟨⟨rfl,hlen⟩,hx⟩:=h
   obtain⟨l,rfl,hl⟩:=all xs hx
   rw[List.length_map]at hlen
   exact⟨.sh,l,rfl,hl,by omega,Or.inl rfl⟩
  |nil=>simp[okV,hk]at h
  |own=>simp[okV,hk]at h
  |non=>simp[okV,hk]at h
  |lent=>simp[okV,hk]at h
 |_=>simp[okV,hk]at h
theorem Hz {n:Nat} {t u:TypeId} {fs:List TypeId} {v:V} (hk:K P t= .struct u fs) (h:okV P (n+1) t v=true):∃xs,v= .agg u xs∧JY (okV P n) fs xs=true:=by
 cases v<;>simp only[okV,hk,Bool.false_eq_true,Bool.and_eq_true,decide_eq_true_eq]at h
 obtain⟨rfl,hx⟩:=h
 exact⟨_,rfl,hx⟩
theorem decl {α:Type} {n:Nat} {t e:TypeId} {c:α→V} {p:α→Prop} {v:V} (hk:K P t= .slice e) (hd:∀v,okV P n e v=true→∃a,v=c a∧p a) (h:okV P (n+1) t v=true):
 ∃l:List α,v= .lst e .sh (l.map c)∧(∀a∈l,p a)∧l.length<9223372036854775808:=by
 obtain⟨f,l,rfl,h1,h2,rfl|rfl⟩:=ADq hk hd h
 ·exact⟨l,rfl,h1,h2⟩
 ·simp[okV,hk]at h
end
section
open Go AM
def AQB (e:E0):Prop:=I64 e.fr∧I64 e.to∧I64 e.w
theorem ANZ {n:Nat} {v:V} (h:okV P (n+2) 96 v=true):∃e,v=D7 e∧AQB e:=by
 obtain⟨xs,rfl,hx⟩:=Hz ARB h
 obtain⟨a,us,rfl,ha,hx⟩:=D5 hx
 obtain⟨b,us,rfl,hb,hx⟩:=D5 hx
 obtain⟨c,us,rfl,hc,hx⟩:=D5 hx
 obtain rfl:=Rw hx
 obtain⟨x,rfl,x1,x2⟩:=EF K_3 Jb ha
 obtain⟨y,rfl,y1,y2⟩:=EF K_3 Jb hb
 obtain⟨z,rfl,z1,z2⟩:=EF K_2 AKY hc
 exact⟨⟨x,y,z⟩,rfl,FT x1 x2,FT y1 y2,FT z1 z2⟩
end
section
open Go AM
theorem AKJ {n:Nat} {v:V} (h:okV P (n+2) 26 v=true):∃j:Job,v=vJ j∧I64 j.src∧I64 j.steps∧j.tag.length<9223372036854775808:=by
 obtain⟨xs,rfl,hx⟩:=Hz AQ9 h
 obtain⟨a,us,rfl,ha,hx⟩:=D5 hx
 obtain⟨b,us,rfl,hb,hx⟩:=D5 hx
 obtain⟨c,us,rfl,hc,hx⟩:=D5 hx
 obtain rfl:=Rw hx
 obtain⟨s,rfl,hs⟩:=AKI K_9 TL ha
 obtain⟨x,rfl,x1,x2⟩:=EF K_3 Jb hb
 obtain⟨y,rfl,y1,y2⟩:=EF K_3 Jb hc
 exact⟨⟨s,x,y⟩,rfl,FT x1 x2,FT y1 y2,hs⟩
end
section
open Go AM
theorem AG2 {n:Nat} {v:V} (h:okV P (n+4) 24 v=true):∃g:Grf,v=vG .sh g∧I64 g.n∧(∀e∈g.es,AQB e)∧g.es.length<9223372036854775808:=by
 obtain⟨xs,rfl,hx⟩:=Hz AQ8 h
 obtain⟨a,us,rfl,ha,hx⟩:=D5 hx
 obtain⟨b,us,rfl,hb,hx⟩:=D5 hx
 obtain rfl:=Rw hx
 obtain⟨x,rfl,x1,x2⟩:=EF K_3 Jb ha
 obtain⟨l,rfl,hl,hm⟩:=decl AQ7 (fun v h=>ANZ (n:=n) h) hb
 exact⟨⟨x,l⟩,rfl,FT x1 x2,hl,hm⟩
end
section
open Go AM
theorem AKK {n:Nat} {v:V} (h:okV P (n+2) 152 v=true):∃m,v=Aa m∧MOk m:=by
 obtain⟨xs,rfl,hx⟩:=Hz ABi h
 obtain⟨a,us,rfl,ha,hx⟩:=D5 hx
 obtain⟨b,us,rfl,hb,hx⟩:=D5 hx
 obtain⟨c,us,rfl,hc,hx⟩:=D5 hx
 obtain rfl:=Rw hx
 obtain⟨x,rfl,x1,x2⟩:=EF K_3 Jb ha
 obtain⟨y,rfl,y1,y2⟩:=EF K_3 Jb hb
 obtain⟨z,rfl,z1,z2⟩:=EF K_2 AKY hc
 exact⟨⟨x,y,z⟩,rfl,FT x1 x2,FT y1 y2,FT z1 z2⟩
end
section
open Go AM
theorem follows:P.follows .mixedOrders=true:=by kernel_rfl
theorem ANa:Vh P=true:=by kernel_rfl
theorem lay:Lay P:=ANQ ANa
theorem AG3:ACf P=true:=by kernel_rfl
theorem AKL:AGy P CJ=true:=by kernel_rfl
theorem ASH:(List.range' 0 40).all (La P CJ)=true:=by kernel_rfl
theorem ASI:(List.range' 40 40).all (La P CJ)=true:=by kernel_rfl
theorem ASJ:(List.range' 80 40).all (La P CJ)=true:=by kernel_rfl
theorem ASL:(List.range' 120 40).all (La P CJ)=true:=by kernel_rfl
theorem ASM:(List.range' 160 40).all (La P CJ)=true:=by kernel_rfl
theorem ASN:(List.range' 200 40).all (La P CJ)=true:=by kernel_rfl
theorem ASO:(List.range' 240 40).all (La P CJ)=true:=by kernel_rfl
theorem ASP:(List.range' 280 40).all (La P CJ)=true:=by kernel_rfl
theorem ASQ:(List.range' 320 40).all (La P CJ)=true:=by kernel_rfl
theorem ASR:(List.range' 360 40).all (La P CJ)=true:=by kernel_rfl
theorem size_le:P.funcs.size≤400:=of_decide_eq_true (by kernel_rfl)
theorem AKM:Me P CJ=true:=by
 simp only[Me,List.all_eq_true,List.mem_range]
 intro f hf
 have hs:=size_le
 have go:∀{a:Nat},(List.range' a 40).all (La P CJ)=true→a≤f→f<a+40→La P CJ f=true:=fun h h1 h2=>List.all_eq_true.1 h f (List.mem_range'_1.2 ⟨h1,h2⟩)
 rcases Nat.lt_or_ge f 200 with h|h
 ·rcases Nat.lt_or_ge f 80 with h2|h2
  ·rcases Nat.lt_or_ge f 40 with h3|h3
   ·exact go ASH (by omega) (by omega)
   ·exact go ASI (by omega) (by omega)
  ·rcases Nat.lt_or_ge f 120 with h3|h3
   ·exact go ASJ (by omega) (by omega)
   ·rcases Nat.lt_or_ge f 160 with h4|h4
    ·exact go ASL (by omega) (by omega)
    ·exact go ASM (by omega) (by omega)
 ·rcases Nat.lt_or_ge f 280 with h2|h2
  ·rcases Nat.lt_or_ge f 240 with h3|h3
   ·exact go ASN (by omega) (by omega)
   ·exact go ASO (by omega) (by omega)
  ·rcases Nat.lt_or_ge f 320 with h3|h3
   ·exact go ASP (by omega) (by omega)
   ·rcases Nat.lt_or_ge f 360 with h4|h4
    ·exact go ASQ (by omega) (by omega)
    ·exact go ASR (by omega) (by omega)
end
end Go.Proofs.YtoakaehjnbhgmaaGreatDoor
