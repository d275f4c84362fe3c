/-
  Part of the proof of a statement about the given program: an abstract machine over its code, the simulation, its functions' equations, what they compute.
-/
import Derived.Test.YtiegkempfolgcaaGreatDoorMg12
import Derived.Test.YtiegkempfolgcaaGreatDoorMg13
import Derived.Test.YtiegkempfolgcaaGreatDoorMg20
import Derived.Test.YtiegkempfolgcaaGreatDoorMg22
import Derived.Test.YtiegkempfolgcaaGreatDoorMg24
import Derived.Test.YtiegkempfolgcaaGreatDoorMg4
import Derived.Test.YtiegkempfolgcaaGreatDoorMg6
set_option linter.unusedVariables false
set_option linter.unusedSimpArgs false
set_option linter.unusedSectionVars false
set_option maxRecDepth 100000
noncomputable section
namespace Go.Proofs.YtiegkempfolgcaaGreatDoor
section
open Go AM
theorem CW {f:TypeId→V→Bool} {t:TypeId} {ts:List TypeId} {vs:List V} (h:IV f (t::ts) vs=true):∃a us,vs=a::us∧f t a=true∧IV f ts us=true:=by
 match vs,h with
 |a::us,h=>simp only[IV,Bool.and_eq_true]at h;exact⟨a,us,rfl,h.1,h.2⟩
theorem Pe {f:TypeId→V→Bool} {vs:List V} (h:IV f [] vs=true):vs=[]:=by
 match vs,h with
 |[],_=>rfl
theorem EM {n:Nat} {t:TypeId} {k:IntKind} {v:V} (hk:K P t= .scal) (hu:P.underlying t=some (.int k)) (h:okV P (n+1) t v=true):∃x:Int,v= .int k x∧k.min≤x∧x≤k.max:=by
 cases v<;>simp only[okV,hk,hu,Bool.false_eq_true,Bool.and_eq_true,decide_eq_true_eq,Lit.wf]at h
 obtain⟨rfl,h1,h2⟩:=h
 exact⟨_,rfl,h1,h2⟩
theorem AF8 {n:Nat} {t:TypeId} {v:V} (hk:K P t= .scal) (hu:P.underlying t=some .string) (h:okV P (n+1) t v=true):∃s:List UInt8,v= .str s∧s.length<9223372036854775808:=by
 cases v<;>simp only[okV,hk,hu,Bool.false_eq_true,decide_eq_true_eq]at h
 rename_i s
 have:maxLen=9223372036854775807:=by decide
 exact⟨s,rfl,by omega⟩
theorem ADk {n:Nat} {t:TypeId} {v:V} (hk:K P t= .scal) (hu:P.underlying t=some .bool) (h:okV P (n+1) t v=true):∃b:Bool,v= .bool b:=by
 cases v<;>simp only[okV,hk,hu,Bool.false_eq_true]at h
 exact⟨_,rfl⟩
theorem MX {x:Int} (h1:(IntKind.i64).min≤x) (h2:x≤(IntKind.i64).max):I64 x:=by
 have e1:(IntKind.i64).min= -9223372036854775808:=by decide
 have e2:(IntKind.i64).max=9223372036854775807:=by decide
 simp only[I64];omega
theorem AI7 {x:Int} (h1:(IntKind.u8).min≤x) (h2:x≤(IntKind.u8).max):∃a:Nat,x=(a:Int)∧a<256:=by
 have e1:(IntKind.u8).min=0:=by decide
 have e2:(IntKind.u8).max=255:=by decide
 exact⟨x.toNat,by omega,by omega⟩
theorem Rh {α:Type} {n:Nat} {t e:TypeId} {c:α→V} {p:α→Prop} {v:V} (hk:K P t= .slice e) (hd:∀v,okV P n e v=true→∃a,v=c a∧p a) (h:okV P (n+1) t v=true):
 ∃(f:Fl) (l:List α),v= .lst e f (l.map c)∧(∀a∈l,p a)∧l.length<9223372036854775808∧(f= .sh∨f= .nil):=by
 have all:∀xs:List V,xs.all (okV P n e)=true→∃l:List α,xs=l.map c∧∀a∈l,p a:=by
  intro xs
  induction xs with
  |nil=>intro _;exact⟨[],rfl,by simp⟩
  |cons x xs ih=>
   intro hx
   simp only[List.all_cons,Bool.and_eq_true]at hx
   obtain⟨a,rfl,ha⟩:=hd x hx.1
   obtain⟨l,rfl,hl⟩:=ih hx.2
   exact⟨a::l,rfl,fun b hb=>by rcases List.mem_cons.1 hb with rfl|hb;·exact ha
                               exact hl b hb⟩
 have hm:maxLen=9223372036854775807:=by decide
 cases v with
 |lst e' f xs=>
  cases f with
  |sh=>
   simp only[okV,hk,Bool.and_eq_true,decide_eq_true_eq]at h
   obtain⟨⟨rfl,hlen⟩,hx⟩:=h
   obtain⟨l,rfl,hl⟩:=all xs hx
   rw[List.length_map]at hlen
   exact⟨.sh,l,rfl,hl,by omega,Or.inl rfl⟩
  |nil=>simp[okV,hk]at h
  |own=>simp[okV,hk]at h
  |non=>simp[okV,hk]at h
  |lent=>simp[okV,hk]at h
 |_=>simp[okV,hk]at h
theorem F7 {n:Nat} {t u:TypeId} {fs:List TypeId} {v:V} (hk:K P t= .struct u fs) (h:okV P (n+1) t v=true):∃xs,v= .agg u xs∧IV (okV P n) fs xs=true:=by
 cases v<;>simp only[okV,hk,Bool.false_eq_true,Bool.and_eq_true,decide_eq_true_eq]at h
 obtain⟨rfl,hx⟩:=h
 exact⟨_,rfl,hx⟩
theorem AAn {α:Type} {n m:Nat} {t u e:TypeId} {c:α→V} {p:α→Prop} {v:V} (hk:K P t= .array u m e) (hd:∀v,okV P n e v=true→∃a,v=c a∧p a) (h:okV P (n+1) t v=true):
 ∃l:List α,v= .agg u (l.map c)∧(∀a∈l,p a)∧l.length=m:=by
 have all:∀xs:List V,xs.all (okV P n e)=true→∃l:List α,xs=l.map c∧∀a∈l,p a:=by
  intro xs
  induction xs with
  |nil=>intro _;exact⟨[],rfl,by simp⟩
  |cons x xs ih=>
   intro hx
   simp only[List.all_cons,Bool.and_eq_true]at hx
   obtain⟨a,rfl,ha⟩:=hd x hx.1
   obtain⟨l,rfl,hl⟩:=ih hx.2
   exact⟨a::l,rfl,fun b hb=>by rcases List.mem_cons.1 hb with rfl|hb;·exact ha
                               exact hl b hb⟩
 cases v<;>simp only[okV,hk,Bool.false_eq_true,Bool.and_eq_true,decide_eq_true_eq]at h
 rename_i u' xs
 obtain⟨⟨rfl,hlen⟩,hx⟩:=h
 obtain⟨l,rfl,hl⟩:=all xs hx
 rw[List.length_map]at hlen
 exact⟨l,rfl,hl,hlen⟩
theorem AI8 {n:Nat} {v:V} (h:okV P (n+1) 5 v=true):∃a:Nat,v= .int .u8 (a:Int)∧a<256:=by
 obtain⟨x,rfl,x1,x2⟩:=EM K_5 KY h
 obtain⟨a,rfl,ha⟩:=AI7 x1 x2
 exact⟨a,rfl,ha⟩
end
section
open Go AM
theorem AF9 {n:Nat} {v:V} (h:okV P (n+2) 108 v=true):∃m,v=AV m∧Z9 m:=by
 obtain⟨xs,rfl,hx⟩:=F7 Yj h
 obtain⟨a,us,rfl,ha,hx⟩:=CW hx
 obtain⟨b,us,rfl,hb,hx⟩:=CW hx
 obtain⟨c,us,rfl,hc,hx⟩:=CW hx
 obtain rfl:=Pe hx
 obtain⟨x,rfl,x1,x2⟩:=EM K_3 N8 ha
 obtain⟨y,rfl,y1,y2⟩:=EM K_3 N8 hb
 obtain⟨z,rfl,z1,z2⟩:=EM K_2 AJl hc
 exact⟨⟨x,y,z⟩,rfl,MX x1 x2,MX y1 y2,MX z1 z2⟩
theorem V7 {n:Nat} {v:V} (h:okV P (n+3) 31 v=true):∃(f:Fl) (l:List Msg),v= .lst 108 f (l.map AV)∧(∀m∈l,Z9 m)∧l.length<9223372036854775808∧(f= .sh∨f= .nil):=
 Rh Sj (fun v h=>AF9 h) h
end
section
open Go AM
theorem decl {α:Type} {n:Nat} {t e:TypeId} {c:α→V} {p:α→Prop} {v:V} (hk:K P t= .slice e) (hd:∀v,okV P n e v=true→∃a,v=c a∧p a) (h:okV P (n+1) t v=true):
 ∃l:List α,v= .lst e .sh (l.map c)∧(∀a∈l,p a)∧l.length<9223372036854775808:=by
 obtain⟨f,l,rfl,h1,h2,rfl|rfl⟩:=Rh hk hd h
 ·exact⟨l,rfl,h1,h2⟩
 ·simp[okV,hk]at h
theorem AAo {n:Nat} {v:V} (h:okV P (n+1) 5 v=true):∃x:UInt8,v= .int .u8 (x.toNat:Int)∧True:=by
 obtain⟨a,rfl,ha⟩:=AI8 h
 exact⟨UInt8.ofNat a,by rw[UInt8.toNat_ofNat_of_lt' ha],trivial⟩
theorem KU {n:Nat} {v:V} (h:okV P (n+2) 55 v=true):∃x:List UInt8,v=BB x∧x.length=32:=by
 obtain⟨l,rfl,_,hl⟩:=AAn (c:=fun x:UInt8=>V.int .u8 (x.toNat:Int)) (p:=fun _=>True) AES (fun v h=>AAo h) h
 exact⟨l,rfl,hl⟩
theorem V8 {n:Nat} {v:V} (h:okV P (n+2) 58 v=true):∃l:List (List UInt8),v=sS l∧l.length<9223372036854775808:=by
 obtain⟨l,rfl,_,hl⟩:=decl (p:=fun _=>True) AET (fun v h=>by obtain⟨s,rfl,_⟩:=AF8 (n:=n) K_9 QW h;exact⟨s,rfl,trivial⟩) h
 exact⟨l,rfl,hl⟩
theorem ADl {n:Nat} {v:V} (h:okV P (n+5) 33 v=true):∃b,v=vB b∧AIu b:=by
 obtain⟨xs,rfl,hx⟩:=F7 AMJ h
 obtain⟨a,us,rfl,ha,hx⟩:=CW hx
 obtain⟨g,us,rfl,hg,hx⟩:=CW hx
 obtain⟨r,us,rfl,hr,hx⟩:=CW hx
 obtain⟨k,us,rfl,hk,hx⟩:=CW hx
 obtain⟨s,us,rfl,hs,hx⟩:=CW hx
 obtain rfl:=Pe hx
 obtain⟨x,rfl,x1,x2⟩:=EM K_3 N8 ha
 obtain⟨gl,rfl,_,_⟩:=decl (p:=fun _=>True) AMH (fun v h=>by obtain⟨b,rfl⟩:=ADk K_4 AJn h;exact⟨b,rfl,trivial⟩) hg
 obtain⟨rl,rfl,r1,_⟩:=decl AJo (fun v h=>KU (n:=n+1) h) hr
 obtain⟨kl,rfl,k1,k2⟩:=decl AMI (fun v h=>V8 (n:=n+1) h) hk
 obtain⟨f,sl,rfl,s1,_,rfl|rfl⟩:=V7 (n:=n+1) hs
 ·exact⟨⟨x,gl,rl,kl,sl⟩,rfl,MX x1 x2,r1,k2,k1,s1⟩
 ·simp[okV,Sj]at hs
theorem AI9 {n:Nat} {v:V} (h:okV P (n+6) 60 v=true):∃x,v=BO x∧AIv x:=by
 obtain⟨xs,rfl,hx⟩:=F7 AMN h
 obtain⟨e,us,rfl,he,hx⟩:=CW hx
 obtain⟨p,us,rfl,hp,hx⟩:=CW hx
 obtain⟨c,us,rfl,hc,hx⟩:=CW hx
 obtain⟨s,us,rfl,hs,hx⟩:=CW hx
 obtain⟨k,us,rfl,hk,hx⟩:=CW hx
 obtain rfl:=Pe hx
 obtain⟨ei,rfl,_,_⟩:=EM AMK AHu he
 obtain⟨pi,rfl,_,_⟩:=EM K_3 N8 hp
 obtain⟨f,sl,rfl,s1,_,hf⟩:=V7 (n:=n+2) hs
 obtain⟨kl,rfl,k2⟩:=V8 (n:=n+3) hk
 obtain⟨ys,rfl,hy⟩:=F7 AMM hc
 obtain⟨a1,us,rfl,h1,hy⟩:=CW hy
 obtain⟨a2,us,rfl,h2,hy⟩:=CW hy
 obtain⟨a3,us,rfl,h3,hy⟩:=CW hy
 obtain⟨a4,us,rfl,h4,hy⟩:=CW hy
 obtain rfl:=Pe hy
 obtain⟨wi,rfl,_,_⟩:=EM K_3 N8 h1
 obtain⟨si,rfl,_,_⟩:=EM K_3 N8 h2
 obtain⟨ri,rfl,r1⟩:=KU (n:=n+2) h3
 obtain⟨bl,rfl,_,_⟩:=decl AJo (fun v h=>KU (n:=n+1) h) h4
 rcases hf with rfl|rfl
 ·exact⟨⟨ei,pi,wi,si,ri,bl,sl,kl⟩,rfl,r1,k2,s1⟩
 ·simp[okV,Sj]at hs
end
section
open Go AM
theorem follows:P.follows .mixedOrders=true:=by kernel_rfl
theorem AJA:TW P=true:=by kernel_rfl
theorem lay:Lay P:=AI1 AJA
theorem ADm:ZW P=true:=by kernel_rfl
theorem AGA:ADg P D9=true:=by kernel_rfl
theorem AGB:PY P D9=true:=by kernel_rfl
end
end Go.Proofs.YtiegkempfolgcaaGreatDoor
