/-
  Part of the proof of a statement about the given program: an abstract machine over its code, the simulation, its functions' equations, what they compute.
-/
import Derived.KernelRfl
import Derived.Test.YtphoocnlpnnkdaaGreatDoorMg2
set_option linter.unusedVariables false
set_option linter.unusedSimpArgs false
set_option linter.unusedSectionVars false
noncomputable section
namespace Go.Proofs.YtphoocnlpnnkdaaGreatDoor
section
namespace AM
open Go
structure Lim {R:Type} (F:Nat→Option R) (G:Option R):Prop where
 up:∀k r,F k=some r→F (k+1)=some r
 lim:∀r,G=some r↔∃k,F k=some r
theorem Lim.mono {R:Type} {F:Nat→Option R} {G:Option R} (h:Lim F G) {k j:Nat} {r:R} (hk:F k=some r) (hj:k≤j):F j=some r:=by
 induction hj with
 |refl=>exact hk
 |step _ ih=>exact h.up _ _ ih
theorem Lim.const {R:Type} (x:Option R):Lim (fun _=>x) x:=⟨fun _ _ h=>h,fun r=>⟨fun h=>⟨0,h⟩,fun⟨_,h⟩=>h⟩⟩
theorem Lim.bind {R S:Type} {F:Nat→Option R} {G:Option R} {F':Nat→R→Option S} {G':R→Option S} (h:Lim F G) (h':∀a,Lim (fun k=>F' k a) (G' a)):
 Lim (fun k=>(F k).bind (F' k)) (G.bind G'):=by
 refine⟨fun k r hk=> ?_,fun r=>⟨fun hr=> ?_,fun⟨k,hk⟩=> ?_⟩⟩
 ·obtain⟨a,ha,hb⟩:=Option.bind_eq_some_iff.1 hk
  exact Option.bind_eq_some_iff.2 ⟨a,h.up _ _ ha,(h' a).up _ _ hb⟩
 ·obtain⟨a,ha,hb⟩:=Option.bind_eq_some_iff.1 hr
  obtain⟨k,hk⟩:=(h.lim a).1 ha
  obtain⟨j,hj⟩:=((h' a).lim r).1 hb
  refine⟨max k j,Option.bind_eq_some_iff.2 ⟨a,h.mono hk (Nat.le_max_left ..),(h' a).mono hj (Nat.le_max_right ..)⟩⟩
 ·obtain⟨a,ha,hb⟩:=Option.bind_eq_some_iff.1 hk
  exact Option.bind_eq_some_iff.2 ⟨a,(h.lim a).2 ⟨k,ha⟩,((h' a).lim r).2 ⟨k,hb⟩⟩
theorem Lim.ite {R:Type} {F F':Nat→Option R} {G G':Option R} (c:V) (h:Lim F G) (h':Lim F' G'):
 Lim (fun k=>V.ite c (F k) (F' k)) (V.ite c G G'):=by
 cases c with
 |bool b=>cases b<;>assumption
 |_=>exact Lim.const none
theorem Lim.cond {R:Type} {F F':Nat→Option R} {G G':Option R} (c:Prop) [Decidable c] (h:Lim F G) (h':Lim F' G'):
 Lim (fun k=>if c then F k else F' k) (if c then G else G'):=by
 by_cases hc:c<;>simp only[hc,if_true,if_false]<;>assumption
structure LimO (O:Nat→Orc) (W:Orc):Prop where
 call:∀f vs h,Lim (fun k=>(O k).call f vs h) (W.call f vs h)
 loop:∀fn blk b st,Lim (fun k=>(O k).loop fn blk b st) (W.loop fn blk b st)
section
variable {P:Program} {A:Ann} {O:Nat→Orc} {W:Orc} {R:Type}
theorem AKR (j:Nat) (f:FuncId) (vs h:List V) {k:Nat→V→List V→Option R} {kw:V→List V→Option R} (hk:∀v h,Lim (fun n=>k n v h) (kw v h)):
 Lim (fun n=>mnz P j f vs h (k n)) (mnz P j f vs h kw):=by
 unfold mnz
 split
 ·exact Lim.cond _ (hk _ _) (Lim.const _)
 ·exact Lim.cond _ (hk _ _) (Lim.const _)
 ·exact Lim.const _
theorem ADs (hO:LimO O W) (f:FuncId) (vs:List V):Lim (fun n=>Hr A (O n) f vs) (Hr A W f vs):=by
 unfold Hr
 split
 ·exact(hO.call ..).bind fun r=>(hO.call ..).bind fun q=>Lim.const _
 ·exact hO.call ..
theorem NW (hO:LimO O W) (x:V) (vs h:List V) {k:Nat→V→List V→Option R} {kw:V→List V→Option R} (hk:∀v h,Lim (fun n=>k n v h) (kw v h)):
 Lim (fun n=>BH P A (O n) x vs h (k n)) (BH P A W x vs h kw):=by
 unfold BH
 split
 ·unfold JK
  refine Lim.cond _ (AKR _ _ _ _ hk) (Lim.cond _ ((Lim.const _).bind fun a=>hk _ _) (Lim.cond _ ((ADs hO ..).bind fun a=>hk _ _) ((hO.call ..).bind fun a=>hk _ _)))
 ·exact Lim.const _
theorem ADt (hO:LimO O W) (hd:Option V) (x:V) (vs h:List V) {k:Nat→V→List V→Option R} {kw:V→List V→Option R} (hk:∀v h,Lim (fun n=>k n v h) (kw v h)):
 Lim (fun n=>Dt P A (O n) hd x vs h (k n)) (Dt P A W hd x vs h kw):=by
 unfold Dt
 split
 ·exact NW hO _ _ _ hk
 ·split
  ·exact Lim.cond _ (NW hO _ _ _ fun v h=>Lim.cond _ (hk _ _) (Lim.const _)) (Lim.const _)
  ·exact Lim.const _
 ·exact Lim.const _
theorem ADu (hO:LimO O W) (kp:Bool) (hd:Option V) (l:List V) (x:V) (vs h:List V) {k:Nat→V→List V→Option R} {kw:V→List V→Option R} (hk:∀v h,Lim (fun n=>k n v h) (kw v h)):
 Lim (fun n=>Eo P A (O n) kp hd l x vs h (k n)) (Eo P A W kp hd l x vs h kw):=by
 unfold Eo
 split
 ·exact ADt hO _ _ _ _ hk
 ·exact(Lim.const _).bind fun m=>NW hO _ _ _ fun v h=>Lim.cond _ (hk _ _) (Lim.const _)
theorem AKS (hO:LimO O W) (fn:FuncId) (rid i:Nat) (o:Oper) (st:St) {k:Nat→St→Option R} {kw:St→Option R} (hk:∀st,Lim (fun n=>k n st) (kw st)):
 Lim (fun n=>op0 P A (O n) fn rid i o st (k n)) (op0 P A W fn rid i o st kw):=by
 unfold op0
 split
 ·exact Lim.cond _ (hk _) (hk _)
 ·exact Lim.cond _ (hk _) (hk _)
 ·exact Lim.ite _ (hk _) (hk _)
 ·exact hk _
 ·exact Lim.cond _ (hk _) (Lim.const _)
 ·exact Lim.cond _ ((Lim.const _).bind fun _=>hk _) (Lim.const _)
 ·exact Lim.cond _ (Lim.cond _ ((Lim.const _).bind fun _=>hk _) ((Lim.const _).bind fun _=>hk _)) (Lim.const _)
 ·split
  ·exact(Lim.const _).bind fun _=>hk _
  ·exact Lim.const _
 ·refine(Lim.const _).bind fun v=> ?_
  dsimp only
  refine Lim.cond _ ?_ (by split<;>exact hk _)
  split
  ·exact(Lim.const _).bind fun _=>hk _
  ·exact Lim.const _
 ·exact ADu hO _ _ _ _ _ _ fun v h=>Lim.cond _ (hk _) (Lim.const _)
 ·exact(Lim.const _).bind fun _=>Lim.cond _ ((Lim.const _).bind fun _=>hk _) (hk _)
theorem AAB (hO:LimO O W) (fn:FuncId) (rid i:Nat) (o:Oper) (st:St) {k:Nat→St→Option R} {kw:St→Option R} (hk:∀st,Lim (fun n=>k n st) (kw st)):
 Lim (fun n=>op P A (O n) fn rid i o st (k n)) (op P A W fn rid i o st kw):=Lim.cond _ (AKS hO fn rid i o st hk) (Lim.const _)
theorem ABT (hO:LimO O W) (fn:FuncId) (rid:Nat) (os:Array Oper) (is:List Nat):∀(sk:List Nat) (st:St) {k:Nat→St→Option R} {kw:St→Option R},(∀st,Lim (fun n=>k n st) (kw st))→
 Lim (fun n=>FQ P A (O n) fn rid os sk is st (k n)) (FQ P A W fn rid os sk is st kw):=by
 induction is with
 |nil=>intro sk st k kw hk;exact hk st
 |cons i is ih=>
  intro sk st k kw hk
  simp only[FQ]
  split
  ·exact Lim.const _
  ·split
   ·exact AAB hO _ _ _ _ _ fun st=>ih _ st hk
   ·split
    ·exact Lim.const _
    ·split
     ·split
      ·exact ih _ _ hk
      ·exact Lim.const _
     ·refine Lim.ite _ ?_ ?_
      ·exact Lim.cond _ (AAB hO _ _ _ _ _ fun st=>ih _ st hk) (ih _ _ hk)
      ·exact Lim.cond _ (ih _ _ hk) (AAB hO _ _ _ _ _ fun st=>ih _ st hk)
theorem AKT (fn blk n:Nat) (st:St) {k:Nat→St→Option R} {kw:St→Option R} (hk:∀st,Lim (fun n=>k n st) (kw st)):
 Lim (fun j=>cut A fn blk n st (k j)) (cut A fn blk n st kw):=by
 unfold cut
 split
 ·exact hk _
 ·exact Lim.cond _ (hk _) (Lim.const _)
 ·exact hk _
theorem AFR (hO:LimO O W) (fn:FuncId) (blk:Nat) (b:Code) (st:St) {k:Nat→Ex→St→Option R} {kw:Ex→St→Option R} (hk:∀e st,Lim (fun n=>k n e st) (kw e st)):
 Lim (fun n=>lp (O n) fn blk b (k n) st) (lp W fn blk b kw st):=(hO.loop ..).bind fun r=>hk _ _
theorem MF (hO:LimO O W) (fn:FuncId) (c:Code):∀(blk:Nat) (st:St) {k:Nat→Ex→St→Option R} {kw:Ex→St→Option R},(∀e st,Lim (fun n=>k n e st) (kw e st))→
 Lim (fun n=>Cj P A (O n) fn blk c st (k n)) (Cj P A W fn blk c st kw):=by
 induction c with
 |skip=>intro blk st k kw hk;exact hk _ _
 |region id os d=>intro blk st k kw hk;exact Lim.cond _ (ABT hO _ _ _ _ _ _ fun st=>hk _ _) (Lim.const _)
 |seq a b iha ihb=>
  intro blk st k kw hk
  simp only[Cj]
  refine iha blk st fun e st=> ?_
  cases e with
  |normal=>exact ihb blk st hk
  |exit j=>exact hk _ _
  |ret=>exact hk _ _
 |cond c a b iha ihb=>intro blk st k kw hk;exact Lim.ite _ (iha _ _ hk) (ihb _ _ hk)
 |block id b ih=>
  intro blk st k kw hk
  simp only[Cj]
  refine ih id st fun e st=> ?_
  cases e with
  |normal=>exact hk _ _
  |exit j=>exact Lim.cond _ (hk _ _) (hk _ _)
  |ret=>exact hk _ _
 |loop b ih=>intro blk st k kw hk;exact AFR hO _ _ _ _ hk
 |exit id=>intro blk st k kw hk;exact hk _ _
 |ret=>intro blk st k kw hk;exact hk _ _
 |_=>intros;exact Lim.const _
theorem ADv (hO:LimO O W) (D:PairD) (st:St) {k:Nat→St→Option R} {kw:St→Option R} (hk:∀st,Lim (fun n=>k n st) (kw st)):Lim (fun n=>OZ P A (O n) D st (k n)) (OZ P A W D st kw):=by
 unfold OZ
 refine Lim.cond _ ((hO.call ..).bind fun r=> ?_) (Lim.const _)
 split
 ·exact(Lim.const _).bind fun bs=>(Lim.const _).bind fun a=>Lim.cond _ ((Lim.const _).bind fun h'=>hk _) (Lim.const _)
 ·exact Lim.const _
theorem ADw (hO:LimO O W) (fn:FuncId):∀(n:Nat) (c:Code) (st:St) {k:Nat→Ex→St→Option R} {kw:Ex→St→Option R},(∀e st,Lim (fun n=>k n e st) (kw e st))→
 Lim (fun m=>chain P A (O m) fn n c st (k m)) (chain P A W fn n c st kw):=by
 intro n
 induction n with
 |zero=>
  intro c st k kw hk
  unfold chain
  split
  ·exact(Lim.const _).bind fun D=>ABT hO _ _ _ _ _ _ fun st=>ADv hO _ _ fun st=>MF hO fn _ 0 _ hk
  ·rename_i h;cases h
  ·exact Lim.const _
 |succ n ih=>
  intro c st k kw hk
  unfold chain
  split
  ·rename_i h;cases h
  ·rename_i h
   cases h
   refine MF hO fn _ 0 _ fun e st=> ?_
   cases e with
   |normal=>exact ih _ _ hk
   |exit j=>exact hk _ _
   |ret=>exact hk _ _
  ·exact Lim.const _
theorem ADx (hO:LimO O W) (f:FuncId) (c:Code) (st:St) {k:Nat→Ex→St→Option R} {kw:Ex→St→Option R} (hk:∀e st,Lim (fun n=>k n e st) (kw e st)):
 Lim (fun m=>Ko P A (O m) f c st (k m)) (Ko P A W f c st kw):=by
 unfold Ko
 split
 ·exact MF hO f _ 0 _ hk
 ·exact ADw hO f _ _ _ hk
theorem QN (hO:LimO O W) (f:FuncId) (vs h:List V):Lim (fun n=>body P A (O n) f vs h) (body P A W f vs h):=by
 unfold body
 refine Lim.cond _ (Lim.const _) ?_
 split
 ·exact Lim.const _
 ·split
  ·exact Lim.const _
  ·exact Lim.cond _ (ADx hO f _ _ fun e st=>Lim.const _) (Lim.const _)
theorem NY (hO:LimO O W) (fn:FuncId) (blk:Nat) (b:Code) (st:St):Lim (fun n=>round P A (O n) fn blk b st) (round P A W fn blk b st):=by
 unfold round
 refine MF hO fn b blk st fun e st'=> ?_
 cases e with
 |normal=>exact AKT _ _ _ _ fun st=>AFR hO _ _ _ _ fun e st=>Lim.const _
 |exit j=>exact Lim.const _
 |ret=>exact Lim.const _
end
section
variable (P:Program) (A:Ann)
open Classical in
def JB (f:FuncId) (vs h:List V):Option (V×List V):=
 if x:∃r k,JO P A k f vs h=some r then some x.choose else none
open Classical in
def Ti (fn:FuncId) (blk:Nat) (b:Code) (st:St):Option (Ex×St):=
 if x:∃r k,Kq P A k fn blk b st=some r then some x.choose else none
def JP:Orc:=⟨JB P A,Ti P A⟩
end
section
variable {P:Program} {A:Ann}
theorem ABU (k:Nat):(∀f vs h r,JO P A k f vs h=some r→JO P A (k+1) f vs h=some r)∧(∀fn blk b st r,Kq P A k fn blk b st=some r→Kq P A (k+1) fn blk b st=some r):=by
 induction k with
 |zero=>exact⟨fun _ _ _ _ h=>by simp[JO]at h,fun _ _ _ _ _ h=>by simp[Kq]at h⟩
 |succ k ih=>
  have hl:LimO (fun n=>if n=0 then JE P A k else JE P A (k+1)) (JE P A (k+1)):=by
   constructor
   ·intro f vs h
    refine⟨fun n r hr=> ?_,fun r=>⟨fun hr=>⟨1,by simpa using hr⟩,fun⟨n,hn⟩=> ?_⟩⟩
    ·by_cases h0:n=0
     ·subst h0;simpa [JE]using ih.1 _ _ _ _ (by simpa [JE]using hr)
     ·simpa [h0]using hr
    ·by_cases h0:n=0
     ·subst h0;exact ih.1 _ _ _ _ (by simpa [JE]using hn)
     ·simpa [h0]using hn
   ·intro fn blk b st
    refine⟨fun n r hr=> ?_,fun r=>⟨fun hr=>⟨1,by simpa using hr⟩,fun⟨n,hn⟩=> ?_⟩⟩
    ·by_cases h0:n=0
     ·subst h0;simpa [JE]using ih.2 _ _ _ _ _ (by simpa [JE]using hr)
     ·simpa [h0]using hr
    ·by_cases h0:n=0
     ·subst h0;exact ih.2 _ _ _ _ _ (by simpa [JE]using hn)
     ·simpa [h0]using hn
  constructor
  ·intro f vs h r hr
   have:=(QN (P:=P) (A:=A) hl f vs h).up 0 r (by simpa [JO,JE]using hr)
   simpa [JO,JE]using this
  ·intro fn blk b st r hr
   have:=(NY (P:=P) (A:=A) hl fn blk b st).up 0 r (by simpa [Kq,JE]using hr)
   simpa [Kq,JE]using this
theorem Lim.of_choose {R:Type} {F:Nat→Option R} (up:∀k r,F k=some r→F (k+1)=some r) {G:Option R}
 (h1:∀r,G=some r→∃k,F k=some r) (h2:∀k r,F k=some r→G.isSome):Lim F G:=by
 refine⟨up,fun r=>⟨h1 r,fun⟨k,hk⟩=> ?_⟩⟩
 obtain⟨r',hr'⟩:=Option.isSome_iff_exists.1 (h2 k r hk)
 obtain⟨j,hj⟩:=h1 r' hr'
 have m:∀{a b:Nat} {x:R},a≤b→F a=some x→F b=some x:=by
  intro a b x hab ha
  induction hab with
  |refl=>exact ha
  |step _ ih=>exact up _ _ ih
 have e1:=m (Nat.le_max_left k j) hk
 have e2:=m (Nat.le_max_right k j) hj
 rw[hr',←Option.some.inj (e1.symm.trans e2)]
theorem JQ:LimO (JE P A) (JP P A):=by
 constructor
 ·intro f vs h
  refine Lim.of_choose (fun k r hr=>(ABU k).1 _ _ _ _ hr) (fun r hr=> ?_) (fun k r hr=> ?_)
  ·simp only[JP,JB]at hr
   split at hr
   ·rename_i x;obtain rfl:=Option.some.inj hr;exact x.choose_spec
   ·cases hr
  ·simp only[JP,JB];rw[dif_pos ⟨r,k,hr⟩];rfl
 ·intro fn blk b st
  refine Lim.of_choose (fun k r hr=>(ABU k).2 _ _ _ _ _ hr) (fun r hr=> ?_) (fun k r hr=> ?_)
  ·simp only[JP,Ti]at hr
   split at hr
   ·rename_i x;obtain rfl:=Option.some.inj hr;exact x.choose_spec
   ·cases hr
  ·simp only[JP,Ti];rw[dif_pos ⟨r,k,hr⟩];rfl
theorem Lim.unique {R:Type} {F:Nat→Option R} {G G':Option R} (h:Lim F G) (h':Lim F G'):G=G':=by
 cases hg:G with
 |some r=>exact((h'.lim r).2 ((h.lim r).1 hg)).symm
 |none=>
  cases hg':G' with
  |none=>rfl
  |some r=>have:=(h.lim r).2 ((h'.lim r).1 hg');rw[hg]at this;cases this
theorem Lim.tail {R:Type} {F:Nat→Option R} {G:Option R} (h:Lim F G):Lim (fun k=>F (k+1)) G:=
 ⟨fun k r hk=>h.up _ _ hk,fun r=>⟨fun hr=>let ⟨k,hk⟩:=(h.lim r).1 hr;⟨k,h.up _ _ hk⟩,fun⟨k,hk⟩=>(h.lim r).2 ⟨_,hk⟩⟩⟩
theorem Xm (f:FuncId) (vs h:List V):JB P A f vs h=body P A (JP P A) f vs h:=
 Lim.unique ((JQ (P:=P) (A:=A)).call f vs h).tail (QN JQ f vs h)
theorem Xn (fn:FuncId) (blk:Nat) (b:Code) (st:St):Ti P A fn blk b st=round P A (JP P A) fn blk b st:=
 Lim.unique ((JQ (P:=P) (A:=A)).loop fn blk b st).tail (NY JQ fn blk b st)
theorem ADy {f:FuncId} {vs h:List V} {r:V×List V}:JB P A f vs h=some r↔∃k,JO P A k f vs h=some r:=
 ((JQ (P:=P) (A:=A)).call f vs h).lim r
end
section
variable {P:Program} {A:Ann} {O:Orc} {R S:Type}
theorem V.ite_bind (c:V) (a b:Option R) (k:R→Option S):(V.ite c a b).bind k=V.ite c (a.bind k) (b.bind k):=by
 cases c with
 |bool b=>cases b<;>rfl
 |_=>rfl
theorem LU (x:V) (vs h:List V) (k:V→List V→Option R) (k':R→Option S):
 (BH P A O x vs h k).bind k'=BH P A O x vs h fun v h=>(k v h).bind k':=by
 unfold BH JK mnz
 split
 ·split
  ·split
   ·dsimp only;split<;>rfl
   ·dsimp only;split<;>rfl
   ·rfl
  ·split
   ·rw[Option.bind_assoc]
   ·split<;>rw[Option.bind_assoc]
 ·rfl
theorem AAC (hd:Option V) (x:V) (vs h:List V) (k:V→List V→Option R) (k':R→Option S):
 (Dt P A O hd x vs h k).bind k'=Dt P A O hd x vs h fun v h=>(k v h).bind k':=by
 unfold Dt
 split
 ·exact LU ..
 ·split
  ·split
   ·rw[LU]
    congr 1;funext v h'
    split<;>rfl
   ·rfl
  ·rfl
 ·rfl
theorem AAD (kp:Bool) (hd:Option V) (l:List V) (x:V) (vs h:List V) (k:V→List V→Option R) (k':R→Option S):
 (Eo P A O kp hd l x vs h k).bind k'=Eo P A O kp hd l x vs h fun v h=>(k v h).bind k':=by
 unfold Eo
 split
 ·exact AAC ..
 ·rw[Option.bind_assoc]
  congr 1;funext m
  rw[LU]
  congr 1;funext v h
  split<;>rfl
theorem AFS (fn:FuncId) (rid i:Nat) (o:Oper) (st:St) (k:St→Option R) (k':R→Option S):
 (op0 P A O fn rid i o st k).bind k'=op0 P A O fn rid i o st fun st=>(k st).bind k':=by
 unfold op0
 split
 ·split<;>rfl
 ·split<;>rfl
 ·rw[V.ite_bind]
 ·rfl
 ·dsimp only;split<;>rfl
 ·split
  ·rw[Option.bind_assoc]
  ·rfl
 ·split
  ·split<;>rw[Option.bind_assoc]
  ·rfl
 ·split
  ·rw[Option.bind_assoc]
  ·rfl
 ·rw[Option.bind_assoc]
  congr 1;funext v
  dsimp only
  split
  ·split
   ·rw[Option.bind_assoc]
   ·rfl
  ·split<;>rfl
 ·rw[AAD]
  congr 1;funext v h
  split<;>rfl
 ·rw[Option.bind_assoc]
  congr 1;funext v
  split
  ·rw[Option.bind_assoc]
  ·rfl
theorem VP (fn:FuncId) (rid i:Nat) (o:Oper) (st:St) (k:St→Option R) (k':R→Option S):
 (op P A O fn rid i o st k).bind k'=op P A O fn rid i o st fun st=>(k st).bind k':=by
 unfold op
 split
 ·exact AFS ..
 ·rfl
theorem Xo (fn:FuncId) (rid:Nat) (os:Array Oper) (k':R→Option S) (is:List Nat):∀(sk:List Nat) (st:St) (k:St→Option R),
 (FQ P A O fn rid os sk is st k).bind k'=FQ P A O fn rid os sk is st fun st=>(k st).bind k':=by
 induction is with
 |nil=>intros;rfl
 |cons i is ih=>
  intro sk st k
  simp only[FQ]
  split
  ·rfl
  ·split
   ·rw[VP];congr 1;funext st;exact ih _ st k
   ·split
    ·rfl
    ·split
     ·split
      ·exact ih _ _ k
      ·rfl
     ·rw[V.ite_bind]
      congr 1
      ·split
       ·rw[VP];congr 1;funext st;exact ih _ st k
       ·exact ih _ _ k
      ·split
       ·exact ih _ _ k
       ·rw[VP];congr 1;funext st;exact ih _ st k
theorem AFT (fn blk n:Nat) (st:St) (k:St→Option R) (k':R→Option S):(cut A fn blk n st k).bind k'=cut A fn blk n st fun st=>(k st).bind k':=by
 unfold cut
 split
 ·rfl
 ·split<;>rfl
 ·rfl
theorem ABV (fn:FuncId) (blk:Nat) (b:Code) (st:St) (k:Ex→St→Option R) (k':R→Option S):(lp O fn blk b k st).bind k'=lp O fn blk b (fun e st=>(k e st).bind k') st:=by
 unfold lp;rw[Option.bind_assoc]
theorem Tj (fn:FuncId) (k':R→Option S) (c:Code):∀(blk:Nat) (st:St) (k:Ex→St→Option R),
 (Cj P A O fn blk c st k).bind k'=Cj P A O fn blk c st fun e st=>(k e st).bind k':=by
 induction c with
 |skip=>intros;rfl
 |region id os d=>
  intro blk st k
  simp only[Cj]
  split
  ·exact Xo ..
  ·rfl
 |seq a b iha ihb=>
  intro blk st k
  simp only[Cj]
  rw[iha]
  congr 1;funext e st
  cases e with
  |normal=>exact ihb ..
  |exit j=>rfl
  |ret=>rfl
 |cond c a b iha ihb=>intro blk st k;simp only[Cj];rw[V.ite_bind,iha,ihb]
 |block id b ih=>
  intro blk st k
  simp only[Cj]
  rw[ih]
  congr 1;funext e st
  cases e with
  |normal=>rfl
  |exit j=>simp only[NV];split<;>rfl
  |ret=>rfl
 |loop b ih=>intro blk st k;simp only[Cj];exact ABV ..
 |exit id=>intros;rfl
 |ret=>intros;rfl
 |_=>intros;rfl
end
section
variable {P:Program} {A:Ann} {R:Type}
theorem ARv (fn:FuncId) (blk:Nat) (b:Code) (k:Ex→St→Option R) (st:St):
 lp (JP P A) fn blk b k st=Cj P A (JP P A) fn blk b st (Xk A (JP P A) fn blk st.h.length b k):=by
 show(Ti P A fn blk b st).bind _=_
 rw[Xn]
 unfold round
 rw[Tj]
 congr 1;funext e st'
 cases e with
 |normal=>exact(AFT ..).trans (congrArg _ (funext fun st=>ABV ..))
 |exit j=>rfl
 |ret=>rfl
end
def lft:Code→Code| .seq a _=>a| .cond _ a _=>a| .block _ b=>b| .loop b=>b|_=> .skip
def rgt:Code→Code| .seq _ b=>b| .cond _ _ b=>b|_=> .skip
def ARw:Code→Bool| .seq _ _=>true|_=>false
def AOM:Code→Bool| .cond _ _ _=>true|_=>false
def AKU:Code→Bool| .block _ _=>true|_=>false
def AON:Code→Bool| .skip=>true|_=>false
def ARx:Code→Nat| .block i _=>i| .exit i=>i|_=>0
def ARy:Code→Operand| .cond x _ _=>x|_=>default
def place:Nat→Nat→Code→Code
 |0,_,c=>c
 |k+1,n,c=>bif Nat.ble n 1 then c else place k (n/2) (bif Nat.beq (n%2) 0 then lft c else rgt c)
def codeOf (P:Program) (f:FuncId):Code:=match P.funcs[f]? with
 |some fn=>fn.body.getD .skip
 |none=> .skip
def funcOf (P:Program) (f:FuncId):Func:=match P.funcs[f]? with
 |some fn=>fn
 |none=>default
def AUo (P:Program) (f n:Nat):Code:=place 64 n (codeOf P f)
section
variable {P:Program} {A:Ann} {O:Orc} {R:Type} {fn blk:Nat} {st:St} {k:Ex→St→Option R} {r:Option R} {C:Code}
theorem Dv (H:Cj P A O fn blk (lft C) st (Xj (Cj P A O fn blk (rgt C)) k)=r) (h:ARw C=true:=by kernel_rfl):Cj P A O fn blk C st k=r:=by
 cases C<;>first|exact H|cases h
theorem E8 {x:V} {a b:Option R} (H:Cj P A O fn blk (lft C) st k=a) (H':Cj P A O fn blk (rgt C) st k=b) (h:AOM C=true:=by kernel_rfl) (hx:st.ev P A 0 (ARy C)=x:=by kernel_rfl):Cj P A O fn blk C st k=V.ite x a b:=by
 subst H H' hx
 cases C<;>first|rfl|cases h
theorem AKV (H:Cj P A O fn (ARx C) (lft C) st (NV (ARx C) k)=r) (h:AKU C=true:=by kernel_rfl):Cj P A O fn blk C st k=r:=by
 cases C<;>first|exact H|cases h
theorem LV (H:k .normal st=r) (h:AON C=true:=by kernel_rfl):Cj P A O fn blk C st k=r:=by
 cases C<;>first|exact H|cases h
theorem EQ {α:Type} (mk:(St→Option R)→α) {F:α→Option R} {k2:α} (H:mk (k .normal)=k2) (h:∀K:Ex→St→Option R,Cj P A O fn blk C st K=F (mk (K .normal)):=by intro;kernel_rfl):Cj P A O fn blk C st k=F k2:=H▸h k
def jn {α β:Type} (k:α) (f:α→β):β:=f k
theorem AOO {α:Type} (mk:(St→Option R)→α) {F:α→Option R} {k2:α} (H:mk (k .normal)=k2) (h:Cj P A O fn blk C st k=F (mk (k .normal))):Cj P A O fn blk C st k=jn k2 F:=H▸h
theorem Cm {f:St→(Ex→St→Option R)→Option R} (H:f st k=r):Xj f k .normal st=r:=H
theorem Xp {id:Nat} (H:k .normal st=r):NV id k .normal st=r:=H
end
def nf (A:Ann) (fn:FuncId):Nat→Code→List (Nat×V)→Option (List (Nat×V))
 |_,.region id _ _,s=>some (drop (A.pre fn id) s)
 |blk,.loop _,s=>some (AFQ (A.keep fn blk) s)
 |blk,.seq a _,s=>nf A fn blk a s
 |_,.block id b,s=>nf A fn id b s
 |_,_,_=>none
theorem AKW {P:Program} {A:Ann} {O:Orc} {R:Type} (fn:FuncId) (h:List V) (s s':List (Nat×V)) (c:Code):∀(blk:Nat) (k:Ex→St→Option R),
 nf A fn blk c s=nf A fn blk c s'→(nf A fn blk c s).isSome=true→Cj P A O fn blk c ⟨s,h⟩ k=Cj P A O fn blk c ⟨s',h⟩ k:=by
 induction c with
 |region id os d=>
  intro blk k h1 _
  simp only[nf,Option.some.injEq]at h1
  simp only[Cj,h1]
 |loop b _=>
  intro blk k h1 _
  simp only[nf,Option.some.injEq]at h1
  simp only[Cj,h1]
 |seq a b iha _=>intro blk k h1 h2;exact iha blk _ h1 h2
 |block id b ih=>intro blk k h1 h2;exact ih id _ h1 h2
 |_=>intro blk k _ h2;cases h2
theorem ARz {P:Program} {A:Ann} {O:Orc} {R:Type} {fn blk:Nat} {C:Code} {h:List V} {s s':List (Nat×V)} {k:Ex→St→Option R}
 (h1:nf A fn blk C s=nf A fn blk C s':=by kernel_rfl) (h2:(nf A fn blk C s).isSome=true:=by kernel_rfl):
 Xj (Cj P A O fn blk C) k .normal ⟨s,h⟩=Xj (Cj P A O fn blk C) k .normal ⟨s',h⟩:=AKW fn h s s' C blk k h1 h2
def AAE (P:Program) (f n:Nat):Bool:=match P.funcs[f]? with
 |some fn=>fn.body.isSome&&Nat.ble n fn.ntmps
 |none=>false
theorem AR0 {P:Program} {A:Ann} {f:FuncId} {vs h:List V} {n:Nat} {r:Option (V×List V)}
 (H:Ko P A (JP P A) f (codeOf P f) ⟨TJ 0 vs,h⟩ (QM P A f (funcOf P f) n)=r) (ok:AAE P f vs.length=true:=by kernel_rfl) (hn:h.length=n:=by rfl) (hb:A.bad f=false:=by kernel_rfl):JB P A f vs h=r:=by
 subst hn
 refine(Xm ..).trans ?_
 unfold body
 rw[if_neg (by rw[hb];exact Bool.false_ne_true)]
 unfold AAE at ok
 unfold codeOf funcOf at H
 cases hf:P.funcs[f]? with
 |none=>rw[hf]at ok;cases ok
 |some fn=>
  simp only[hf,Bool.and_eq_true]at ok H
  cases hb:fn.body with
  |none=>rw[hb]at ok;cases ok.1
  |some c=>
   simp only[hb,Option.getD_some]at H
   simp only[hb]
   rw[if_pos (Nat.le_of_ble_eq_true ok.2)]
   exact H
theorem Ar {P:Program} {A:Ann} {f:FuncId} {vs h:List V} {n:Nat} {r:Option (V×List V)}
 (H:Cj P A (JP P A) f 0 (codeOf P f) ⟨TJ 0 vs,h⟩ (QM P A f (funcOf P f) n)=r) (ok:AAE P f vs.length=true:=by kernel_rfl) (hn:h.length=n:=by rfl) (hp:A.pair f=0:=by kernel_rfl) (hb:A.bad f=false:=by kernel_rfl):JB P A f vs h=r:=
 AR0 (by unfold Ko;rw[hp];exact H) ok hn hb
theorem DV {P:Program} {A:Ann} {R:Type} {fn blk:Nat} {b:Code} {k:Ex→St→Option R} {st:St} {r:Option R}
 (H:Cj P A (JP P A) fn blk b st (Xk A (JP P A) fn blk st.h.length b k)=r):lp (JP P A) fn blk b k st=r:=(ARv ..).trans H
end AM
end
section
namespace AM
open Go
def tyB (v:V):Bool:=match v with| .bool _=>true|_=>false
def tyI (k:IntKind) (v:V):Bool:=match v with| .int k' _=>decide (k'=k)|_=>false
def tyS (v:V):Bool:=match v with| .str _=>true|_=>false
def tyP (v:V):Bool:=match v with| .ref _ _ _=>true| .rop _ _=>true| .nilp=>true|_=>false
def tyF (v:V):Bool:=match v with| .clo _ _=>true| .nilf=>true|_=>false
def tyL (e:TypeId) (v:V):Bool:=match v with| .lst e' _ _=>e'==e| .win _ _ _ _ e'=>e'==e|_=>false
def tyG (u:TypeId) (v:V):Bool:=match v with| .agg t' _=>t'==u|_=>false
def fA (s ft:TypeId) (f:Nat) (a:V):Option V:=match a with
 | .ref id p t=>if t=s then some (.ref id (p++[f]) ft)else none
 | .rop t x=>if t=s then(match x with
   | .agg _ xs=>(xs[f]?).map (.rop ft)
   |_=>none)else none
 |_=>none
def cpB (hs:Bool) (v:V):V:=if hs=true then v.weak else v
def nlB (hs:Bool) (vs:List V):List V:=if hs=true then AP vs else vs
def fV (u:TypeId) (f:Nat) (hs:Bool) (x:V):Option V:=match x with
 | .agg t xs=>if t=u then(xs[f]?).map (cpB hs)else none
 |_=>none
def lnS (x:V):Option V:=match x with| .str s=>some (.int .i64 s.length)|_=>none
def EJ (x:V):Option V:=match x with| .lst _ _ xs=>some (.int .i64 xs.length)| .win _ _ _ len _=>some (.int .i64 len)|_=>none
def D9 (e:TypeId) (x i:V):Option V:=match i with
 | .int _ i=>match x with
   | .lst e' _ xs=>if e'=e&&inside i xs.length then(xs[i.toNat]?).map (.rop e)else none
   | .win id p off len e'=>if e'=e&&inside i len then some (.ref id (p++[off+i.toNat]) e)else none
   |_=>none
 |_=>none
def ixA (t u:TypeId) (n:Nat) (e:TypeId) (x i:V):Option V:=match i with
 | .int _ i=>match x with
   | .ref id p t'=>if t'=t&&inside i n then some (.ref id (p++[i.toNat]) e)else none
   | .rop t' y=>if t'=t&&inside i n then(match y with
     | .agg u' xs=>if u'=u then(xs[i.toNat]?).map (.rop e)else none
     |_=>none)else none
   |_=>none
 |_=>none
def ixT (x i:V):Option V:=match i with
 | .int _ i=>match x with
   | .str s=>if inside i s.length then(s[i.toNat]?).map fun b=> .int .u8 b.toNat else none
   | .agg _ _=>none
   |_=>none
 |_=>none
def slT (x:V) (lo hi:Option V):Option V:=match x with
 | .str s=>(CQ s.length lo hi none).map fun b=> .str ((s.take b.2).drop b.1)
 | .lst _ _ _=>none
 | .win _ _ _ _ _=>none
 | .ref _ _ _=>none
 | .rop _ _=>none
 |_=>none
def slL (e:TypeId) (x:V) (lo hi mx:Option V):Option V:=match x with
 | .str _=>none
 | .lst e1 f xs=>if e=e1 then(CQ xs.length lo hi mx).map fun b=> .lst e1 f.cut ((xs.take b.2).drop b.1)else none
 | .win id p off len e1=>if e=e1 then(CQ len lo hi mx).map fun b=> .win id p (off+b.1) (b.2-b.1) e1 else none
 | .ref _ _ _=>none
 | .rop _ _=>none
 |_=>none
def slA (t u:TypeId) (n:Nat) (e:TypeId) (x:V) (lo hi mx:Option V):Option V:=match x with
 | .str _=>none
 | .lst _ _ _=>none
 | .win _ _ _ _ _=>none
 | .ref id p t'=>if t'=t then(CQ n lo hi mx).map fun b=> .win id p b.1 (b.2-b.1) e else none
 | .rop t' y=>if t'=t then(match y with
   | .agg u' xs=>if u'=u then(CQ n lo hi mx).map fun b=> .lst e .lent ((xs.take b.2).drop b.1)else none
   |_=>none)else none
 |_=>none
def ck {α:Type}:List Bool→α→Option α
 |[],x=>some x
 |b::bs,x=>if b=true then ck bs x else none
def NU (e:TypeId) (hs:Bool) (o:Option (List V)):Option V:=o.map fun xs=> .lst e (if AU xs then .own else .lent) (nlB hs xs)
def mkL (e:TypeId) (z n c:V):Option V:=match n,c with
 | .int _ n,.int _ c=>if 0≤n∧n≤c∧c≤1048576 then some (.lst e .own (List.replicate n.toNat z))else none
 |_,_=>none
def Kr (k:IntKind) (x:V):Option V:=match x with| .int _ n=>some (.int k (k.wrap n))|_=>none
def cvS (x:V):Option V:=match x with| .str s=>some (.str s)|_=>none
def cvB (e:TypeId) (x:V):Option V:=match x with| .str s=>if s.length≤EI then some (.lst e .own (bytesOf s))else none|_=>none
def cvT (h:List V) (x:V):Option V:=match x with| .str s=>some (.str s)|x=>((Ai h x).bind Fg).map .str
def FU (e:TypeId) (ty:V→Bool) (hs:Bool) (h:List V) (x y:V):Option V:=match x with
 | .lst e' f xs=>if e'=e&&(f== .own||f== .nil)then
  (Ai h y).bind fun ys=>if AU ys&&ys.all ty&&decide (xs.length+ys.length≤EI)then some (.lst e (if f== .nil&&ys.isEmpty then .nil else .own) (xs++nlB hs ys))else none
   else none
 |_=>none
def DJ (ty:V→Bool) (t:TypeId) (h:List V) (a v:V):Option (List V):=match a with
 | .ref id p t'=>if t'=t then(if ty v&&v.under (id+1)then wr h id p v else none)else none
 |_=>none
def Tm (ty:V→Bool) (op:BinOp) (x y:V):Option V:=
 if(ty x&&ty y)=true then
  match op with
  | .eql=>(KX x y).map .bool
  | .neq=>(KX x y).map fun r=> .bool (!r)
  |_=>none
 else none
end AM
end
end Go.Proofs.YtphoocnlpnnkdaaGreatDoor
