/-
  Part of the proof of a statement about the given program: an abstract machine over its code, the simulation, its functions' equations, what they compute.
-/
import Derived.KernelRfl
import Derived.Test.YtkelgdjhpgefnaaGreatDoorMg2
set_option linter.unusedVariables false
set_option linter.unusedSimpArgs false
set_option linter.unusedSectionVars false
noncomputable section
namespace Go.Proofs.YtkelgdjhpgefnaaGreatDoor
section
namespace AM
open Go
structure Lim {R:Type} (F:Nat→Option R) (G:Option R):Prop where
 up:∀k r,F k=some r→F (k+1)=some r
 lim:∀r,G=some r↔∃k,F k=some r
theorem Lim.mono {R:Type} {F:Nat→Option R} {G:Option R} (h:Lim F G) {k j:Nat} {r:R} (hk:F k=some r) (hj:k≤j):F j=some r:=by
 induction hj with
 |refl=>exact hk
 |step _ ih=>exact h.up _ _ ih
theorem Lim.const {R:Type} (x:Option R):Lim (fun _=>x) x:=⟨fun _ _ h=>h,fun r=>⟨fun h=>⟨0,h⟩,fun⟨_,h⟩=>h⟩⟩
theorem Lim.bind {R S:Type} {F:Nat→Option R} {G:Option R} {F':Nat→R→Option S} {G':R→Option S} (h:Lim F G) (h':∀a,Lim (fun k=>F' k a) (G' a)):
 Lim (fun k=>(F k).bind (F' k)) (G.bind G'):=by
 refine⟨fun k r hk=> ?_,fun r=>⟨fun hr=> ?_,fun⟨k,hk⟩=> ?_⟩⟩
 ·obtain⟨a,ha,hb⟩:=Option.bind_eq_some_iff.1 hk
  exact Option.bind_eq_some_iff.2 ⟨a,h.up _ _ ha,(h' a).up _ _ hb⟩
 ·obtain⟨a,ha,hb⟩:=Option.bind_eq_some_iff.1 hr
  obtain⟨k,hk⟩:=(h.lim a).1 ha
  obtain⟨j,hj⟩:=((h' a).lim r).1 hb
  refine⟨max k j,Option.bind_eq_some_iff.2 ⟨a,h.mono hk (Nat.le_max_left ..),(h' a).mono hj (Nat.le_max_right ..)⟩⟩
 ·obtain⟨a,ha,hb⟩:=Option.bind_eq_some_iff.1 hk
  exact Option.bind_eq_some_iff.2 ⟨a,(h.lim a).2 ⟨k,ha⟩,((h' a).lim r).2 ⟨k,hb⟩⟩
theorem Lim.ite {R:Type} {F F':Nat→Option R} {G G':Option R} (c:V) (h:Lim F G) (h':Lim F' G'):
 Lim (fun k=>V.ite c (F k) (F' k)) (V.ite c G G'):=by
 cases c with
 |bool b=>cases b<;>assumption
 |_=>exact Lim.const none
theorem Lim.cond {R:Type} {F F':Nat→Option R} {G G':Option R} (c:Prop) [Decidable c] (h:Lim F G) (h':Lim F' G'):
 Lim (fun k=>if c then F k else F' k) (if c then G else G'):=by
 by_cases hc:c<;>simp only[hc,if_true,if_false]<;>assumption
structure LimO (O:Nat→Orc) (W:Orc):Prop where
 call:∀f vs h,Lim (fun k=>(O k).call f vs h) (W.call f vs h)
 loop:∀fn blk b st,Lim (fun k=>(O k).loop fn blk b st) (W.loop fn blk b st)
section
variable {P:Program} {A:Ann} {O:Nat→Orc} {W:Orc} {R:Type}
theorem Xl (j:Nat) (f:FuncId) (vs h:List V) {k:Nat→V→List V→Option R} {kw:V→List V→Option R} (hk:∀v h,Lim (fun n=>k n v h) (kw v h)):
 Lim (fun n=>Xc P j f vs h (k n)) (Xc P j f vs h kw):=by
 unfold Xc
 split
 ·exact Lim.cond _ (hk _ _) (Lim.const _)
 ·exact Lim.cond _ (hk _ _) (Lim.const _)
 ·exact Lim.const _
theorem TW (hO:LimO O W) (f:FuncId) (vs:List V):Lim (fun n=>Ja A (O n) f vs) (Ja A W f vs):=by
 unfold Ja
 split
 ·exact(hO.call ..).bind fun r=>(hO.call ..).bind fun q=>Lim.const _
 ·exact hO.call ..
theorem IJ (hO:LimO O W) (x:V) (vs h:List V) {k:Nat→V→List V→Option R} {kw:V→List V→Option R} (hk:∀v h,Lim (fun n=>k n v h) (kw v h)):
 Lim (fun n=>CX P A (O n) x vs h (k n)) (CX P A W x vs h kw):=by
 unfold CX
 split
 ·unfold GI
  refine Lim.cond _ (Xl _ _ _ _ hk) (Lim.cond _ ((Lim.const _).bind fun a=>hk _ _) (Lim.cond _ ((TW hO ..).bind fun a=>hk _ _) ((hO.call ..).bind fun a=>hk _ _)))
 ·exact Lim.const _
theorem TY (hO:LimO O W) (hd:Option V) (x:V) (vs h:List V) {k:Nat→V→List V→Option R} {kw:V→List V→Option R} (hk:∀v h,Lim (fun n=>k n v h) (kw v h)):
 Lim (fun n=>Eg P A (O n) hd x vs h (k n)) (Eg P A W hd x vs h kw):=by
 unfold Eg
 split
 ·exact IJ hO _ _ _ hk
 ·split
  ·exact Lim.cond _ (IJ hO _ _ _ fun v h=>Lim.cond _ (hk _ _) (Lim.const _)) (Lim.const _)
  ·exact Lim.const _
 ·exact Lim.const _
theorem Tc (hO:LimO O W) (kp:Bool) (hd:Option V) (l:List V) (x:V) (vs h:List V) {k:Nat→V→List V→Option R} {kw:V→List V→Option R} (hk:∀v h,Lim (fun n=>k n v h) (kw v h)):
 Lim (fun n=>DX P A (O n) kp hd l x vs h (k n)) (DX P A W kp hd l x vs h kw):=by
 unfold DX
 split
 ·exact TY hO _ _ _ _ hk
 ·exact(Lim.const _).bind fun m=>IJ hO _ _ _ fun v h=>Lim.cond _ (hk _ _) (Lim.const _)
theorem Xm (hO:LimO O W) (fn:FuncId) (rid i:Nat) (o:Oper) (st:St) {k:Nat→St→Option R} {kw:St→Option R} (hk:∀st,Lim (fun n=>k n st) (kw st)):
 Lim (fun n=>op0 P A (O n) fn rid i o st (k n)) (op0 P A W fn rid i o st kw):=by
 unfold op0
 split
 ·exact Lim.cond _ (hk _) (hk _)
 ·exact Lim.cond _ (hk _) (hk _)
 ·exact Lim.ite _ (hk _) (hk _)
 ·exact hk _
 ·exact Lim.cond _ (hk _) (Lim.const _)
 ·exact Lim.cond _ ((Lim.const _).bind fun _=>hk _) (Lim.const _)
 ·exact Lim.cond _ (Lim.cond _ ((Lim.const _).bind fun _=>hk _) ((Lim.const _).bind fun _=>hk _)) (Lim.const _)
 ·split
  ·exact(Lim.const _).bind fun _=>hk _
  ·exact Lim.const _
 ·refine(Lim.const _).bind fun v=> ?_
  dsimp only
  refine Lim.cond _ ?_ (by split<;>exact hk _)
  split
  ·exact(Lim.const _).bind fun _=>hk _
  ·exact Lim.const _
 ·exact Tc hO _ _ _ _ _ _ fun v h=>Lim.cond _ (hk _) (Lim.const _)
 ·exact(Lim.const _).bind fun _=>Lim.cond _ ((Lim.const _).bind fun _=>hk _) (hk _)
theorem QT (hO:LimO O W) (fn:FuncId) (rid i:Nat) (o:Oper) (st:St) {k:Nat→St→Option R} {kw:St→Option R} (hk:∀st,Lim (fun n=>k n st) (kw st)):
 Lim (fun n=>op P A (O n) fn rid i o st (k n)) (op P A W fn rid i o st kw):=Lim.cond _ (Xm hO fn rid i o st hk) (Lim.const _)
theorem RI (hO:LimO O W) (fn:FuncId) (rid:Nat) (os:Array Oper) (is:List Nat):∀(sk:List Nat) (st:St) {k:Nat→St→Option R} {kw:St→Option R},(∀st,Lim (fun n=>k n st) (kw st))→
 Lim (fun n=>DC P A (O n) fn rid os sk is st (k n)) (DC P A W fn rid os sk is st kw):=by
 induction is with
 |nil=>intro sk st k kw hk;exact hk st
 |cons i is ih=>
  intro sk st k kw hk
  simp only[DC]
  split
  ·exact Lim.const _
  ·split
   ·exact QT hO _ _ _ _ _ fun st=>ih _ st hk
   ·split
    ·exact Lim.const _
    ·split
     ·split
      ·exact ih _ _ hk
      ·exact Lim.const _
     ·refine Lim.ite _ ?_ ?_
      ·exact Lim.cond _ (QT hO _ _ _ _ _ fun st=>ih _ st hk) (ih _ _ hk)
      ·exact Lim.cond _ (ih _ _ hk) (QT hO _ _ _ _ _ fun st=>ih _ st hk)
theorem Xn (fn blk n:Nat) (st:St) {k:Nat→St→Option R} {kw:St→Option R} (hk:∀st,Lim (fun n=>k n st) (kw st)):
 Lim (fun j=>cut A fn blk n st (k j)) (cut A fn blk n st kw):=by
 unfold cut
 split
 ·exact hk _
 ·exact Lim.cond _ (hk _) (Lim.const _)
 ·exact hk _
theorem U7 (hO:LimO O W) (fn:FuncId) (blk:Nat) (b:Code) (st:St) {k:Nat→Ex→St→Option R} {kw:Ex→St→Option R} (hk:∀e st,Lim (fun n=>k n e st) (kw e st)):
 Lim (fun n=>lp (O n) fn blk b (k n) st) (lp W fn blk b kw st):=(hO.loop ..).bind fun r=>hk _ _
theorem G7 (hO:LimO O W) (fn:FuncId) (c:Code):∀(blk:Nat) (st:St) {k:Nat→Ex→St→Option R} {kw:Ex→St→Option R},(∀e st,Lim (fun n=>k n e st) (kw e st))→
 Lim (fun n=>BN P A (O n) fn blk c st (k n)) (BN P A W fn blk c st kw):=by
 induction c with
 |skip=>intro blk st k kw hk;exact hk _ _
 |region id os d=>intro blk st k kw hk;exact Lim.cond _ (RI hO _ _ _ _ _ _ fun st=>hk _ _) (Lim.const _)
 |seq a b iha ihb=>
  intro blk st k kw hk
  simp only[BN]
  refine iha blk st fun e st=> ?_
  cases e with
  |normal=>exact ihb blk st hk
  |exit j=>exact hk _ _
  |ret=>exact hk _ _
 |cond c a b iha ihb=>intro blk st k kw hk;exact Lim.ite _ (iha _ _ hk) (ihb _ _ hk)
 |block id b ih=>
  intro blk st k kw hk
  simp only[BN]
  refine ih id st fun e st=> ?_
  cases e with
  |normal=>exact hk _ _
  |exit j=>exact Lim.cond _ (hk _ _) (hk _ _)
  |ret=>exact hk _ _
 |loop b ih=>intro blk st k kw hk;exact U7 hO _ _ _ _ hk
 |exit id=>intro blk st k kw hk;exact hk _ _
 |ret=>intro blk st k kw hk;exact hk _ _
 |_=>intros;exact Lim.const _
theorem Td (hO:LimO O W) (D:PairD) (st:St) {k:Nat→St→Option R} {kw:St→Option R} (hk:∀st,Lim (fun n=>k n st) (kw st)):Lim (fun n=>Ik P A (O n) D st (k n)) (Ik P A W D st kw):=by
 unfold Ik
 refine Lim.cond _ ((hO.call ..).bind fun r=> ?_) (Lim.const _)
 split
 ·exact(Lim.const _).bind fun bs=>(Lim.const _).bind fun a=>Lim.cond _ ((Lim.const _).bind fun h'=>hk _) (Lim.const _)
 ·exact Lim.const _
theorem Tf (hO:LimO O W) (fn:FuncId):∀(n:Nat) (c:Code) (st:St) {k:Nat→Ex→St→Option R} {kw:Ex→St→Option R},(∀e st,Lim (fun n=>k n e st) (kw e st))→
 Lim (fun m=>chain P A (O m) fn n c st (k m)) (chain P A W fn n c st kw):=by
 intro n
 induction n with
 |zero=>
  intro c st k kw hk
  unfold chain
  split
  ·exact(Lim.const _).bind fun D=>RI hO _ _ _ _ _ _ fun st=>Td hO _ _ fun st=>G7 hO fn _ 0 _ hk
  ·rename_i h;cases h
  ·exact Lim.const _
 |succ n ih=>
  intro c st k kw hk
  unfold chain
  split
  ·rename_i h;cases h
  ·rename_i h
   cases h
   refine G7 hO fn _ 0 _ fun e st=> ?_
   cases e with
   |normal=>exact ih _ _ hk
   |exit j=>exact hk _ _
   |ret=>exact hk _ _
  ·exact Lim.const _
theorem Ti (hO:LimO O W) (f:FuncId) (c:Code) (st:St) {k:Nat→Ex→St→Option R} {kw:Ex→St→Option R} (hk:∀e st,Lim (fun n=>k n e st) (kw e st)):
 Lim (fun m=>GK P A (O m) f c st (k m)) (GK P A W f c st kw):=by
 unfold GK
 split
 ·exact G7 hO f _ 0 _ hk
 ·exact Tf hO f _ _ _ hk
theorem Jd (hO:LimO O W) (f:FuncId) (vs h:List V):Lim (fun n=>body P A (O n) f vs h) (body P A W f vs h):=by
 unfold body
 refine Lim.cond _ (Lim.const _) ?_
 split
 ·exact Lim.const _
 ·split
  ·exact Lim.const _
  ·exact Lim.cond _ (Ti hO f _ _ fun e st=>Lim.const _) (Lim.const _)
theorem IK (hO:LimO O W) (fn:FuncId) (blk:Nat) (b:Code) (st:St):Lim (fun n=>round P A (O n) fn blk b st) (round P A W fn blk b st):=by
 unfold round
 refine G7 hO fn b blk st fun e st'=> ?_
 cases e with
 |normal=>exact Xn _ _ _ _ fun st=>U7 hO _ _ _ _ fun e st=>Lim.const _
 |exit j=>exact Lim.const _
 |ret=>exact Lim.const _
end
section
variable (P:Program) (A:Ann)
open Classical in
def Eh (f:FuncId) (vs h:List V):Option (V×List V):=
 if x:∃r k,Es P A k f vs h=some r then some x.choose else none
open Classical in
def Lh (fn:FuncId) (blk:Nat) (b:Code) (st:St):Option (Ex×St):=
 if x:∃r k,GL P A k fn blk b st=some r then some x.choose else none
def Eu:Orc:=⟨Eh P A,Lh P A⟩
end
section
variable {P:Program} {A:Ann}
theorem RJ (k:Nat):(∀f vs h r,Es P A k f vs h=some r→Es P A (k+1) f vs h=some r)∧(∀fn blk b st r,GL P A k fn blk b st=some r→GL P A (k+1) fn blk b st=some r):=by
 induction k with
 |zero=>exact⟨fun _ _ _ _ h=>by simp[Es]at h,fun _ _ _ _ _ h=>by simp[GL]at h⟩
 |succ k ih=>
  have hl:LimO (fun n=>if n=0 then En P A k else En P A (k+1)) (En P A (k+1)):=by
   constructor
   ·intro f vs h
    refine⟨fun n r hr=> ?_,fun r=>⟨fun hr=>⟨1,by simpa using hr⟩,fun⟨n,hn⟩=> ?_⟩⟩
    ·by_cases h0:n=0
     ·subst h0;simpa [En]using ih.1 _ _ _ _ (by simpa [En]using hr)
     ·simpa [h0]using hr
    ·by_cases h0:n=0
     ·subst h0;exact ih.1 _ _ _ _ (by simpa [En]using hn)
     ·simpa [h0]using hn
   ·intro fn blk b st
    refine⟨fun n r hr=> ?_,fun r=>⟨fun hr=>⟨1,by simpa using hr⟩,fun⟨n,hn⟩=> ?_⟩⟩
    ·by_cases h0:n=0
     ·subst h0;simpa [En]using ih.2 _ _ _ _ _ (by simpa [En]using hr)
     ·simpa [h0]using hr
    ·by_cases h0:n=0
     ·subst h0;exact ih.2 _ _ _ _ _ (by simpa [En]using hn)
     ·simpa [h0]using hn
  constructor
  ·intro f vs h r hr
   have:=(Jd (P:=P) (A:=A) hl f vs h).up 0 r (by simpa [Es,En]using hr)
   simpa [Es,En]using this
  ·intro fn blk b st r hr
   have:=(IK (P:=P) (A:=A) hl fn blk b st).up 0 r (by simpa [GL,En]using hr)
   simpa [GL,En]using this
theorem Lim.of_choose {R:Type} {F:Nat→Option R} (up:∀k r,F k=some r→F (k+1)=some r) {G:Option R}
 (h1:∀r,G=some r→∃k,F k=some r) (h2:∀k r,F k=some r→G.isSome):Lim F G:=by
 refine⟨up,fun r=>⟨h1 r,fun⟨k,hk⟩=> ?_⟩⟩
 obtain⟨r',hr'⟩:=Option.isSome_iff_exists.1 (h2 k r hk)
 obtain⟨j,hj⟩:=h1 r' hr'
 have m:∀{a b:Nat} {x:R},a≤b→F a=some x→F b=some x:=by
  intro a b x hab ha
  induction hab with
  |refl=>exact ha
  |step _ ih=>exact up _ _ ih
 have e1:=m (Nat.le_max_left k j) hk
 have e2:=m (Nat.le_max_right k j) hj
 rw[hr',←Option.some.inj (e1.symm.trans e2)]
theorem Ew:LimO (En P A) (Eu P A):=by
 constructor
 ·intro f vs h
  refine Lim.of_choose (fun k r hr=>(RJ k).1 _ _ _ _ hr) (fun r hr=> ?_) (fun k r hr=> ?_)
  ·simp only[Eu,Eh]at hr
   split at hr
   ·rename_i x;obtain rfl:=Option.some.inj hr;exact x.choose_spec
   ·cases hr
  ·simp only[Eu,Eh];rw[dif_pos ⟨r,k,hr⟩];rfl
 ·intro fn blk b st
  refine Lim.of_choose (fun k r hr=>(RJ k).2 _ _ _ _ _ hr) (fun r hr=> ?_) (fun k r hr=> ?_)
  ·simp only[Eu,Lh]at hr
   split at hr
   ·rename_i x;obtain rfl:=Option.some.inj hr;exact x.choose_spec
   ·cases hr
  ·simp only[Eu,Lh];rw[dif_pos ⟨r,k,hr⟩];rfl
theorem Lim.unique {R:Type} {F:Nat→Option R} {G G':Option R} (h:Lim F G) (h':Lim F G'):G=G':=by
 cases hg:G with
 |some r=>exact((h'.lim r).2 ((h.lim r).1 hg)).symm
 |none=>
  cases hg':G' with
  |none=>rfl
  |some r=>have:=(h.lim r).2 ((h'.lim r).1 hg');rw[hg]at this;cases this
theorem Lim.tail {R:Type} {F:Nat→Option R} {G:Option R} (h:Lim F G):Lim (fun k=>F (k+1)) G:=
 ⟨fun k r hk=>h.up _ _ hk,fun r=>⟨fun hr=>let ⟨k,hk⟩:=(h.lim r).1 hr;⟨k,h.up _ _ hk⟩,fun⟨k,hk⟩=>(h.lim r).2 ⟨_,hk⟩⟩⟩
theorem OG (f:FuncId) (vs h:List V):Eh P A f vs h=body P A (Eu P A) f vs h:=
 Lim.unique ((Ew (P:=P) (A:=A)).call f vs h).tail (Jd Ew f vs h)
theorem OH (fn:FuncId) (blk:Nat) (b:Code) (st:St):Lh P A fn blk b st=round P A (Eu P A) fn blk b st:=
 Lim.unique ((Ew (P:=P) (A:=A)).loop fn blk b st).tail (IK Ew fn blk b st)
theorem Tj {f:FuncId} {vs h:List V} {r:V×List V}:Eh P A f vs h=some r↔∃k,Es P A k f vs h=some r:=
 ((Ew (P:=P) (A:=A)).call f vs h).lim r
end
section
variable {P:Program} {A:Ann} {O:Orc} {R S:Type}
theorem V.ite_bind (c:V) (a b:Option R) (k:R→Option S):(V.ite c a b).bind k=V.ite c (a.bind k) (b.bind k):=by
 cases c with
 |bool b=>cases b<;>rfl
 |_=>rfl
theorem Gg (x:V) (vs h:List V) (k:V→List V→Option R) (k':R→Option S):
 (CX P A O x vs h k).bind k'=CX P A O x vs h fun v h=>(k v h).bind k':=by
 unfold CX GI Xc
 split
 ·split
  ·split
   ·dsimp only;split<;>rfl
   ·dsimp only;split<;>rfl
   ·rfl
  ·split
   ·rw[Option.bind_assoc]
   ·split<;>rw[Option.bind_assoc]
 ·rfl
theorem QU (hd:Option V) (x:V) (vs h:List V) (k:V→List V→Option R) (k':R→Option S):
 (Eg P A O hd x vs h k).bind k'=Eg P A O hd x vs h fun v h=>(k v h).bind k':=by
 unfold Eg
 split
 ·exact Gg ..
 ·split
  ·split
   ·rw[Gg]
    congr 1;funext v h'
    split<;>rfl
   ·rfl
  ·rfl
 ·rfl
theorem QV (kp:Bool) (hd:Option V) (l:List V) (x:V) (vs h:List V) (k:V→List V→Option R) (k':R→Option S):
 (DX P A O kp hd l x vs h k).bind k'=DX P A O kp hd l x vs h fun v h=>(k v h).bind k':=by
 unfold DX
 split
 ·exact QU ..
 ·rw[Option.bind_assoc]
  congr 1;funext m
  rw[Gg]
  congr 1;funext v h
  split<;>rfl
theorem U8 (fn:FuncId) (rid i:Nat) (o:Oper) (st:St) (k:St→Option R) (k':R→Option S):
 (op0 P A O fn rid i o st k).bind k'=op0 P A O fn rid i o st fun st=>(k st).bind k':=by
 unfold op0
 split
 ·split<;>rfl
 ·split<;>rfl
 ·rw[V.ite_bind]
 ·rfl
 ·dsimp only;split<;>rfl
 ·split
  ·rw[Option.bind_assoc]
  ·rfl
 ·split
  ·split<;>rw[Option.bind_assoc]
  ·rfl
 ·split
  ·rw[Option.bind_assoc]
  ·rfl
 ·rw[Option.bind_assoc]
  congr 1;funext v
  dsimp only
  split
  ·split
   ·rw[Option.bind_assoc]
   ·rfl
  ·split<;>rfl
 ·rw[QV]
  congr 1;funext v h
  split<;>rfl
 ·rw[Option.bind_assoc]
  congr 1;funext v
  split
  ·rw[Option.bind_assoc]
  ·rfl
theorem NI (fn:FuncId) (rid i:Nat) (o:Oper) (st:St) (k:St→Option R) (k':R→Option S):
 (op P A O fn rid i o st k).bind k'=op P A O fn rid i o st fun st=>(k st).bind k':=by
 unfold op
 split
 ·exact U8 ..
 ·rfl
theorem OI (fn:FuncId) (rid:Nat) (os:Array Oper) (k':R→Option S) (is:List Nat):∀(sk:List Nat) (st:St) (k:St→Option R),
 (DC P A O fn rid os sk is st k).bind k'=DC P A O fn rid os sk is st fun st=>(k st).bind k':=by
 induction is with
 |nil=>intros;rfl
 |cons i is ih=>
  intro sk st k
  simp only[DC]
  split
  ·rfl
  ·split
   ·rw[NI];congr 1;funext st;exact ih _ st k
   ·split
    ·rfl
    ·split
     ·split
      ·exact ih _ _ k
      ·rfl
     ·rw[V.ite_bind]
      congr 1
      ·split
       ·rw[NI];congr 1;funext st;exact ih _ st k
       ·exact ih _ _ k
      ·split
       ·exact ih _ _ k
       ·rw[NI];congr 1;funext st;exact ih _ st k
theorem U9 (fn blk n:Nat) (st:St) (k:St→Option R) (k':R→Option S):(cut A fn blk n st k).bind k'=cut A fn blk n st fun st=>(k st).bind k':=by
 unfold cut
 split
 ·rfl
 ·split<;>rfl
 ·rfl
theorem RN (fn:FuncId) (blk:Nat) (b:Code) (st:St) (k:Ex→St→Option R) (k':R→Option S):(lp O fn blk b k st).bind k'=lp O fn blk b (fun e st=>(k e st).bind k') st:=by
 unfold lp;rw[Option.bind_assoc]
theorem Lj (fn:FuncId) (k':R→Option S) (c:Code):∀(blk:Nat) (st:St) (k:Ex→St→Option R),
 (BN P A O fn blk c st k).bind k'=BN P A O fn blk c st fun e st=>(k e st).bind k':=by
 induction c with
 |skip=>intros;rfl
 |region id os d=>
  intro blk st k
  simp only[BN]
  split
  ·exact OI ..
  ·rfl
 |seq a b iha ihb=>
  intro blk st k
  simp only[BN]
  rw[iha]
  congr 1;funext e st
  cases e with
  |normal=>exact ihb ..
  |exit j=>rfl
  |ret=>rfl
 |cond c a b iha ihb=>intro blk st k;simp only[BN];rw[V.ite_bind,iha,ihb]
 |block id b ih=>
  intro blk st k
  simp only[BN]
  rw[ih]
  congr 1;funext e st
  cases e with
  |normal=>rfl
  |exit j=>simp only[NH];split<;>rfl
  |ret=>rfl
 |loop b ih=>intro blk st k;simp only[BN];exact RN ..
 |exit id=>intros;rfl
 |ret=>intros;rfl
 |_=>intros;rfl
end
section
variable {P:Program} {A:Ann} {R:Type}
theorem AA6 (fn:FuncId) (blk:Nat) (b:Code) (k:Ex→St→Option R) (st:St):
 lp (Eu P A) fn blk b k st=BN P A (Eu P A) fn blk b st (OD A (Eu P A) fn blk st.h.length b k):=by
 show(Lh P A fn blk b st).bind _=_
 rw[OH]
 unfold round
 rw[Lj]
 congr 1;funext e st'
 cases e with
 |normal=>exact(U9 ..).trans (congrArg _ (funext fun st=>RN ..))
 |exit j=>rfl
 |ret=>rfl
end
def lft:Code→Code| .seq a _=>a| .cond _ a _=>a| .block _ b=>b| .loop b=>b|_=> .skip
def rgt:Code→Code| .seq _ b=>b| .cond _ _ b=>b|_=> .skip
def AA7:Code→Bool| .seq _ _=>true|_=>false
def Zw:Code→Bool| .cond _ _ _=>true|_=>false
def Zx:Code→Bool| .skip=>true|_=>false
def AA8:Code→Operand| .cond x _ _=>x|_=>default
def place:Nat→Nat→Code→Code
 |0,_,c=>c
 |k+1,n,c=>bif Nat.ble n 1 then c else place k (n/2) (bif Nat.beq (n%2) 0 then lft c else rgt c)
def codeOf (P:Program) (f:FuncId):Code:=match P.funcs[f]? with
 |some fn=>fn.body.getD .skip
 |none=> .skip
def funcOf (P:Program) (f:FuncId):Func:=match P.funcs[f]? with
 |some fn=>fn
 |none=>default
def AC3 (P:Program) (f n:Nat):Code:=place 64 n (codeOf P f)
section
variable {P:Program} {A:Ann} {O:Orc} {R:Type} {fn blk:Nat} {st:St} {k:Ex→St→Option R} {r:Option R} {C:Code}
theorem Il (H:BN P A O fn blk (lft C) st (TV (BN P A O fn blk (rgt C)) k)=r) (h:AA7 C=true:=by kernel_rfl):BN P A O fn blk C st k=r:=by
 cases C<;>first|exact H|cases h
theorem QW {x:V} {a b:Option R} (H:BN P A O fn blk (lft C) st k=a) (H':BN P A O fn blk (rgt C) st k=b) (h:Zw C=true:=by kernel_rfl) (hx:st.ev P A 0 (AA8 C)=x:=by kernel_rfl):BN P A O fn blk C st k=V.ite x a b:=by
 subst H H' hx
 cases C<;>first|rfl|cases h
theorem VA (H:k .normal st=r) (h:Zx C=true:=by kernel_rfl):BN P A O fn blk C st k=r:=by
 cases C<;>first|exact H|cases h
theorem OJ {α:Type} (mk:(St→Option R)→α) {F:α→Option R} {k2:α} (H:mk (k .normal)=k2) (h:∀K:Ex→St→Option R,BN P A O fn blk C st K=F (mk (K .normal)):=by intro;kernel_rfl):BN P A O fn blk C st k=F k2:=H▸h k
def jn {α β:Type} (k:α) (f:α→β):β:=f k
theorem AC4 {α:Type} (mk:(St→Option R)→α) {F:α→Option R} {k2:α} (H:mk (k .normal)=k2) (h:BN P A O fn blk C st k=F (mk (k .normal))):BN P A O fn blk C st k=jn k2 F:=H▸h
theorem Gh {f:St→(Ex→St→Option R)→Option R} (H:f st k=r):TV f k .normal st=r:=H
end
def QX (P:Program) (f n:Nat):Bool:=match P.funcs[f]? with
 |some fn=>fn.body.isSome&&Nat.ble n fn.ntmps
 |none=>false
theorem AA9 {P:Program} {A:Ann} {f:FuncId} {vs h:List V} {n:Nat} {r:Option (V×List V)}
 (H:GK P A (Eu P A) f (codeOf P f) ⟨LH 0 vs,h⟩ (Jc P A f (funcOf P f) n)=r) (ok:QX P f vs.length=true:=by kernel_rfl) (hn:h.length=n:=by rfl) (hb:A.bad f=false:=by kernel_rfl):Eh P A f vs h=r:=by
 subst hn
 refine(OG ..).trans ?_
 unfold body
 rw[if_neg (by rw[hb];exact Bool.false_ne_true)]
 unfold QX at ok
 unfold codeOf funcOf at H
 cases hf:P.funcs[f]? with
 |none=>rw[hf]at ok;cases ok
 |some fn=>
  simp only[hf,Bool.and_eq_true]at ok H
  cases hb:fn.body with
  |none=>rw[hb]at ok;cases ok.1
  |some c=>
   simp only[hb,Option.getD_some]at H
   simp only[hb]
   rw[if_pos (Nat.le_of_ble_eq_true ok.2)]
   exact H
theorem OL {P:Program} {A:Ann} {f:FuncId} {vs h:List V} {n:Nat} {r:Option (V×List V)}
 (H:BN P A (Eu P A) f 0 (codeOf P f) ⟨LH 0 vs,h⟩ (Jc P A f (funcOf P f) n)=r) (ok:QX P f vs.length=true:=by kernel_rfl) (hn:h.length=n:=by rfl) (hp:A.pair f=0:=by kernel_rfl) (hb:A.bad f=false:=by kernel_rfl):Eh P A f vs h=r:=
 AA9 (by unfold GK;rw[hp];exact H) ok hn hb
theorem IL {P:Program} {A:Ann} {R:Type} {fn blk:Nat} {b:Code} {k:Ex→St→Option R} {st:St} {r:Option R}
 (H:BN P A (Eu P A) fn blk b st (OD A (Eu P A) fn blk st.h.length b k)=r):lp (Eu P A) fn blk b k st=r:=(AA6 ..).trans H
end AM
end
end Go.Proofs.YtkelgdjhpgefnaaGreatDoor
