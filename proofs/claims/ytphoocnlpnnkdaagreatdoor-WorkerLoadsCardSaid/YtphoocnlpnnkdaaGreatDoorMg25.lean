/-
  A part.
-/
import Derived.Test.YtphoocnlpnnkdaaGreatDoorMg12
import Derived.Test.YtphoocnlpnnkdaaGreatDoorMg20
import Derived.Test.YtphoocnlpnnkdaaGreatDoorMg22
import Derived.Test.YtphoocnlpnnkdaaGreatDoorMg24
import Derived.Test.YtphoocnlpnnkdaaGreatDoorMg4
import Derived.Test.YtphoocnlpnnkdaaGreatDoorMg6
import Derived.Test.YtphoocnlpnnkdaaGreatDoorMg9
set_option linter.unusedVariables false
set_option linter.unusedSimpArgs false
set_option linter.unusedSectionVars false
set_option maxRecDepth 100000
noncomputable section
namespace Go.Proofs.YtphoocnlpnnkdaaGreatDoor
section
open Go AM
theorem EU {f:TypeId→V→Bool} {t:TypeId} {ts:List TypeId} {vs:List V} (h:KW f (t::ts) vs=true):∃a us,vs=a::us∧f t a=true∧KW f ts us=true:=by
 match vs,h with
 |a::us,h=>simp only[KW,Bool.and_eq_true]at h;exact⟨a,us,rfl,h.1,h.2⟩
theorem TG {f:TypeId→V→Bool} {vs:List V} (h:KW f [] vs=true):vs=[]:=by
 match vs,h with
 |[],_=>rfl
theorem Ee {n:Nat} {t:TypeId} {k:IntKind} {v:V} (hk:K P t= .scal) (hu:P.underlying t=some (.int k)) (h:okV P (n+1) t v=true):∃x:Int,v= .int k x∧k.min≤x∧x≤k.max:=by
 cases v<;>simp only[okV,hk,hu,Bool.false_eq_true,Bool.and_eq_true,decide_eq_true_eq,Lit.wf]at h
 obtain⟨rfl,h1,h2⟩:=h
 exact⟨_,rfl,h1,h2⟩
theorem AM9 {n:Nat} {t:TypeId} {v:V} (hk:K P t= .scal) (hu:P.underlying t=some .string) (h:okV P (n+1) t v=true):∃s:List UInt8,v= .str s∧s.length<9223372036854775808:=by
 cases v<;>simp only[okV,hk,hu,Bool.false_eq_true,decide_eq_true_eq]at h
 rename_i s
 have:maxLen=9223372036854775807:=by decide
 exact⟨s,rfl,by omega⟩
theorem GX {x:Int} (h1:(IntKind.i64).min≤x) (h2:x≤(IntKind.i64).max):I64 x:=by
 have e1:(IntKind.i64).min= -9223372036854775808:=by decide
 have e2:(IntKind.i64).max=9223372036854775807:=by decide
 simp only[I64];omega
theorem ARB {x:Int} (h1:(IntKind.u8).min≤x) (h2:x≤(IntKind.u8).max):∃a:Nat,x=(a:Int)∧a<256:=by
 have e1:(IntKind.u8).min=0:=by decide
 have e2:(IntKind.u8).max=255:=by decide
 exact⟨x.toNat,by omega,by omega⟩
theorem AE9 {α:Type} {n:Nat} {t e:TypeId} {c:α→V} {p:α→Prop} {v:V} (hk:K P t= .slice e) (hd:∀v,okV P n e v=true→∃a,v=c a∧p a) (h:okV P (n+1) t v=true):
 ∃(f:Fl) (l:List α),v= .lst e f (l.map c)∧(∀a∈l,p a)∧l.length<9223372036854775808∧(f= .sh∨f= .nil):=by
 have all:∀xs:List V,xs.all (okV P n e)=true→∃l:List α,xs=l.map c∧∀a∈l,p a:=by
  intro xs
  induction xs with
  |nil=>intro _;exact⟨[],rfl,by simp⟩
  |cons x xs ih=>
   intro hx
   simp only[List.all_cons,Bool.and_eq_true]at hx
   obtain⟨a,rfl,ha⟩:=hd x hx.1
   obtain⟨l,rfl,hl⟩:=ih hx.2
   exact⟨a::l,rfl,fun b hb=>by rcases List.mem_cons.1 hb with rfl|hb;·exact ha
                               exact hl b hb⟩
 have hm:maxLen=9223372036854775807:=by decide
 cases v with
 |lst e' f xs=>
  cases f with
  |sh=>
   simp only[okV,hk,Bool.and_eq_true,decide_eq_true_eq]at h
   obtain⟨⟨rfl,hlen⟩,hx⟩:=h
   obtain⟨l,rfl,hl⟩:=all xs hx
   rw[List.length_map]at hlen
   exact⟨.sh,l,rfl,hl,by omega,Or.inl rfl⟩
  |nil=>simp[okV,hk]at h
  |own=>simp[okV,hk]at h
  |non=>simp[okV,hk]at h
  |lent=>simp[okV,hk]at h
 |_=>simp[okV,hk]at h
theorem JA {n:Nat} {t u:TypeId} {fs:List TypeId} {v:V} (hk:K P t= .struct u fs) (h:okV P (n+1) t v=true):∃xs,v= .agg u xs∧KW (okV P n) fs xs=true:=by
 cases v<;>simp only[okV,hk,Bool.false_eq_true,Bool.and_eq_true,decide_eq_true_eq]at h
 obtain⟨rfl,hx⟩:=h
 exact⟨_,rfl,hx⟩
theorem decl {α:Type} {n:Nat} {t e:TypeId} {c:α→V} {p:α→Prop} {v:V} (hk:K P t= .slice e) (hd:∀v,okV P n e v=true→∃a,v=c a∧p a) (h:okV P (n+1) t v=true):
 ∃l:List α,v= .lst e .sh (l.map c)∧(∀a∈l,p a)∧l.length<9223372036854775808:=by
 obtain⟨f,l,rfl,h1,h2,rfl|rfl⟩:=AE9 hk hd h
 ·exact⟨l,rfl,h1,h2⟩
 ·simp[okV,hk]at h
end
section
open Go AM
def AT2 (e:E0):Prop:=I64 e.fr∧I64 e.to∧I64 e.w
theorem ARC {n:Nat} {v:V} (h:okV P (n+2) 52 v=true):∃e,v=EX e∧AT2 e:=by
 obtain⟨xs,rfl,hx⟩:=JA AU2 h
 obtain⟨a,us,rfl,ha,hx⟩:=EU hx
 obtain⟨b,us,rfl,hb,hx⟩:=EU hx
 obtain⟨c,us,rfl,hc,hx⟩:=EU hx
 obtain rfl:=TG hx
 obtain⟨x,rfl,x1,x2⟩:=Ee K_3 JV ha
 obtain⟨y,rfl,y1,y2⟩:=Ee K_3 JV hb
 obtain⟨z,rfl,z1,z2⟩:=Ee K_2 ACp hc
 exact⟨⟨x,y,z⟩,rfl,GX x1 x2,GX y1 y2,GX z1 z2⟩
end
section
open Go AM
theorem ANA {n:Nat} {v:V} (h:okV P (n+2) 26 v=true):∃j:Job,v=vJ j∧I64 j.src∧I64 j.steps∧j.tag.length<9223372036854775808:=by
 obtain⟨xs,rfl,hx⟩:=JA AUz h
 obtain⟨a,us,rfl,ha,hx⟩:=EU hx
 obtain⟨b,us,rfl,hb,hx⟩:=EU hx
 obtain⟨c,us,rfl,hc,hx⟩:=EU hx
 obtain rfl:=TG hx
 obtain⟨s,rfl,hs⟩:=AM9 K_9 Gj ha
 obtain⟨x,rfl,x1,x2⟩:=Ee K_3 JV hb
 obtain⟨y,rfl,y1,y2⟩:=Ee K_3 JV hc
 exact⟨⟨s,x,y⟩,rfl,GX x1 x2,GX y1 y2,hs⟩
end
section
open Go AM
theorem AJ8 {n:Nat} {v:V} (h:okV P (n+4) 24 v=true):∃g:Grf,v=vG .sh g∧I64 g.n∧(∀e∈g.es,AT2 e)∧g.es.length<9223372036854775808:=by
 obtain⟨xs,rfl,hx⟩:=JA AUy h
 obtain⟨a,us,rfl,ha,hx⟩:=EU hx
 obtain⟨b,us,rfl,hb,hx⟩:=EU hx
 obtain rfl:=TG hx
 obtain⟨x,rfl,x1,x2⟩:=Ee K_3 JV ha
 obtain⟨l,rfl,hl,hm⟩:=decl AUx (fun v h=>ARC (n:=n) h) hb
 exact⟨⟨x,l⟩,rfl,GX x1 x2,hl,hm⟩
end
section
open Go AM
theorem ANB {n:Nat} {v:V} (h:okV P (n+2) 103 v=true):∃m,v=Ac m∧MOk m:=by
 obtain⟨xs,rfl,hx⟩:=JA ACr h
 obtain⟨a,us,rfl,ha,hx⟩:=EU hx
 obtain⟨b,us,rfl,hb,hx⟩:=EU hx
 obtain⟨c,us,rfl,hc,hx⟩:=EU hx
 obtain rfl:=TG hx
 obtain⟨x,rfl,x1,x2⟩:=Ee K_3 JV ha
 obtain⟨y,rfl,y1,y2⟩:=Ee K_3 JV hb
 obtain⟨z,rfl,z1,z2⟩:=Ee K_2 ACp hc
 exact⟨⟨x,y,z⟩,rfl,GX x1 x2,GX y1 y2,GX z1 z2⟩
end
section
open Go AM
theorem follows:P.follows .mixedOrders=true:=by kernel_rfl
theorem ARD:XV P=true:=by kernel_rfl
theorem lay:Lay P:=AQ4 ARD
theorem AJ9:ADn P=true:=by kernel_rfl
theorem ANC:AJ4 P CX=true:=by kernel_rfl
theorem AV0:(List.range' 0 40).all (NR P CX)=true:=by kernel_rfl
theorem AV1:(List.range' 40 40).all (NR P CX)=true:=by kernel_rfl
theorem AV2:(List.range' 80 40).all (NR P CX)=true:=by kernel_rfl
theorem AV3:(List.range' 120 40).all (NR P CX)=true:=by kernel_rfl
theorem AV4:(List.range' 160 40).all (NR P CX)=true:=by kernel_rfl
theorem AV5:(List.range' 200 40).all (NR P CX)=true:=by kernel_rfl
theorem AV6:(List.range' 240 40).all (NR P CX)=true:=by kernel_rfl
theorem AV7:(List.range' 280 40).all (NR P CX)=true:=by kernel_rfl
theorem AV8:(List.range' 320 40).all (NR P CX)=true:=by kernel_rfl
theorem AV9:(List.range' 360 40).all (NR P CX)=true:=by kernel_rfl
theorem size_le:P.funcs.size≤400:=of_decide_eq_true (by kernel_rfl)
theorem ANE:OX P CX=true:=by
 simp only[OX,List.all_eq_true,List.mem_range]
 intro f hf
 have hs:=size_le
 have go:∀{a:Nat},(List.range' a 40).all (NR P CX)=true→a≤f→f<a+40→NR P CX f=true:=fun h h1 h2=>List.all_eq_true.1 h f (List.mem_range'_1.2 ⟨h1,h2⟩)
 rcases Nat.lt_or_ge f 200 with h|h
 ·rcases Nat.lt_or_ge f 80 with h2|h2
  ·rcases Nat.lt_or_ge f 40 with h3|h3
   ·exact go AV0 (by omega) (by omega)
   ·exact go AV1 (by omega) (by omega)
  ·rcases Nat.lt_or_ge f 120 with h3|h3
   ·exact go AV2 (by omega) (by omega)
   ·rcases Nat.lt_or_ge f 160 with h4|h4
    ·exact go AV3 (by omega) (by omega)
    ·exact go AV4 (by omega) (by omega)
 ·rcases Nat.lt_or_ge f 280 with h2|h2
  ·rcases Nat.lt_or_ge f 240 with h3|h3
   ·exact go AV5 (by omega) (by omega)
   ·exact go AV6 (by omega) (by omega)
  ·rcases Nat.lt_or_ge f 320 with h3|h3
   ·exact go AV7 (by omega) (by omega)
   ·rcases Nat.lt_or_ge f 360 with h4|h4
    ·exact go AV8 (by omega) (by omega)
    ·exact go AV9 (by omega) (by omega)
end
end Go.Proofs.YtphoocnlpnnkdaaGreatDoor
