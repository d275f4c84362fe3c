/-
  Part of the proof of a statement about the given program: an abstract machine over its code, the simulation, its functions' equations, what they compute.
-/
import Derived.KernelRfl
import Derived.Test.YtoakaehjnbhgmaaGreatDoorMg2
set_option linter.unusedVariables false
set_option linter.unusedSimpArgs false
set_option linter.unusedSectionVars false
noncomputable section
namespace Go.Proofs.YtoakaehjnbhgmaaGreatDoor
section
namespace AM
open Go
structure Lim {R:Type} (F:Nat→Option R) (G:Option R):Prop where
 up:∀k r,F k=some r→F (k+1)=some r
 lim:∀r,G=some r↔∃k,F k=some r
theorem Lim.mono {R:Type} {F:Nat→Option R} {G:Option R} (h:Lim F G) {k j:Nat} {r:R} (hk:F k=some r) (hj:k≤j):F j=some r:=by
 induction hj with
 |refl=>exact hk
 |step _ ih=>exact h.up _ _ ih
theorem Lim.const {R:Type} (x:Option R):Lim (fun _=>x) x:=⟨fun _ _ h=>h,fun r=>⟨fun h=>⟨0,h⟩,fun⟨_,h⟩=>h⟩⟩
theorem Lim.bind {R S:Type} {F:Nat→Option R} {G:Option R} {F':Nat→R→Option S} {G':R→Option S} (h:Lim F G) (h':∀a,Lim (fun k=>F' k a) (G' a)):
 Lim (fun k=>(F k).bind (F' k)) (G.bind G'):=by
 refine⟨fun k r hk=> ?_,fun r=>⟨fun hr=> ?_,fun⟨k,hk⟩=> ?_⟩⟩
 ·obtain⟨a,ha,hb⟩:=Option.bind_eq_some_iff.1 hk
  exact Option.bind_eq_some_iff.2 ⟨a,h.up _ _ ha,(h' a).up _ _ hb⟩
 ·obtain⟨a,ha,hb⟩:=Option.bind_eq_some_iff.1 hr
  obtain⟨k,hk⟩:=(h.lim a).1 ha
  obtain⟨j,hj⟩:=((h' a).lim r).1 hb
  refine⟨max k j,Option.bind_eq_some_iff.2 ⟨a,h.mono hk (Nat.le_max_left ..),(h' a).mono hj (Nat.le_max_right ..)⟩⟩
 ·obtain⟨a,ha,hb⟩:=Option.bind_eq_some_iff.1 hk
  exact Option.bind_eq_some_iff.2 ⟨a,(h.lim a).2 ⟨k,ha⟩,((h' a).lim r).2 ⟨k,hb⟩⟩
theorem Lim.ite {R:Type} {F F':Nat→Option R} {G G':Option R} (c:V) (h:Lim F G) (h':Lim F' G'):
 Lim (fun k=>V.ite c (F k) (F' k)) (V.ite c G G'):=by
 cases c with
 |bool b=>cases b<;>assumption
 |_=>exact Lim.const none
theorem Lim.cond {R:Type} {F F':Nat→Option R} {G G':Option R} (c:Prop) [Decidable c] (h:Lim F G) (h':Lim F' G'):
 Lim (fun k=>if c then F k else F' k) (if c then G else G'):=by
 by_cases hc:c<;>simp only[hc,if_true,if_false]<;>assumption
structure LimO (O:Nat→Orc) (W:Orc):Prop where
 call:∀f vs h,Lim (fun k=>(O k).call f vs h) (W.call f vs h)
 loop:∀fn blk b st,Lim (fun k=>(O k).loop fn blk b st) (W.loop fn blk b st)
section
variable {P:Program} {A:Ann} {O:Nat→Orc} {W:Orc} {R:Type}
theorem AD3 (j:Nat) (f:FuncId) (vs h:List V) {k:Nat→V→List V→Option R} {kw:V→List V→Option R} (hk:∀v h,Lim (fun n=>k n v h) (kw v h)):
 Lim (fun n=>mnz P j f vs h (k n)) (mnz P j f vs h kw):=by
 unfold mnz
 split
 ·exact Lim.cond _ (hk _ _) (Lim.const _)
 ·exact Lim.cond _ (hk _ _) (Lim.const _)
 ·exact Lim.const _
theorem Zj (hO:LimO O W) (f:FuncId) (vs:List V):Lim (fun n=>E8 A (O n) f vs) (E8 A W f vs):=by
 unfold E8
 split
 ·exact(hO.call ..).bind fun r=>(hO.call ..).bind fun q=>Lim.const _
 ·exact hO.call ..
theorem KA (hO:LimO O W) (x:V) (vs h:List V) {k:Nat→V→List V→Option R} {kw:V→List V→Option R} (hk:∀v h,Lim (fun n=>k n v h) (kw v h)):
 Lim (fun n=>Cj P A (O n) x vs h (k n)) (Cj P A W x vs h kw):=by
 unfold Cj
 split
 ·unfold GV
  refine Lim.cond _ (AD3 _ _ _ _ hk) (Lim.cond _ ((Lim.const _).bind fun a=>hk _ _) (Lim.cond _ ((Zj hO ..).bind fun a=>hk _ _) ((hO.call ..).bind fun a=>hk _ _)))
 ·exact Lim.const _
theorem Zk (hO:LimO O W) (hd:Option V) (x:V) (vs h:List V) {k:Nat→V→List V→Option R} {kw:V→List V→Option R} (hk:∀v h,Lim (fun n=>k n v h) (kw v h)):
 Lim (fun n=>EQ P A (O n) hd x vs h (k n)) (EQ P A W hd x vs h kw):=by
 unfold EQ
 split
 ·exact KA hO _ _ _ hk
 ·split
  ·exact Lim.cond _ (KA hO _ _ _ fun v h=>Lim.cond _ (hk _ _) (Lim.const _)) (Lim.const _)
  ·exact Lim.const _
 ·exact Lim.const _
theorem Zl (hO:LimO O W) (kp:Bool) (hd:Option V) (l:List V) (x:V) (vs h:List V) {k:Nat→V→List V→Option R} {kw:V→List V→Option R} (hk:∀v h,Lim (fun n=>k n v h) (kw v h)):
 Lim (fun n=>EG P A (O n) kp hd l x vs h (k n)) (EG P A W kp hd l x vs h kw):=by
 unfold EG
 split
 ·exact Zk hO _ _ _ _ hk
 ·exact(Lim.const _).bind fun m=>KA hO _ _ _ fun v h=>Lim.cond _ (hk _ _) (Lim.const _)
theorem AD4 (hO:LimO O W) (fn:FuncId) (rid i:Nat) (o:Oper) (st:St) {k:Nat→St→Option R} {kw:St→Option R} (hk:∀st,Lim (fun n=>k n st) (kw st)):
 Lim (fun n=>op0 P A (O n) fn rid i o st (k n)) (op0 P A W fn rid i o st kw):=by
 unfold op0
 split
 ·exact Lim.cond _ (hk _) (hk _)
 ·exact Lim.cond _ (hk _) (hk _)
 ·exact Lim.ite _ (hk _) (hk _)
 ·exact hk _
 ·exact Lim.cond _ (hk _) (Lim.const _)
 ·exact Lim.cond _ ((Lim.const _).bind fun _=>hk _) (Lim.const _)
 ·exact Lim.cond _ (Lim.cond _ ((Lim.const _).bind fun _=>hk _) ((Lim.const _).bind fun _=>hk _)) (Lim.const _)
 ·split
  ·exact(Lim.const _).bind fun _=>hk _
  ·exact Lim.const _
 ·refine(Lim.const _).bind fun v=> ?_
  dsimp only
  refine Lim.cond _ ?_ (by split<;>exact hk _)
  split
  ·exact(Lim.const _).bind fun _=>hk _
  ·exact Lim.const _
 ·exact Zl hO _ _ _ _ _ _ fun v h=>Lim.cond _ (hk _) (Lim.const _)
 ·exact(Lim.const _).bind fun _=>Lim.cond _ ((Lim.const _).bind fun _=>hk _) (hk _)
theorem WN (hO:LimO O W) (fn:FuncId) (rid i:Nat) (o:Oper) (st:St) {k:Nat→St→Option R} {kw:St→Option R} (hk:∀st,Lim (fun n=>k n st) (kw st)):
 Lim (fun n=>op P A (O n) fn rid i o st (k n)) (op P A W fn rid i o st kw):=Lim.cond _ (AD4 hO fn rid i o st hk) (Lim.const _)
theorem Xi (hO:LimO O W) (fn:FuncId) (rid:Nat) (os:Array Oper) (is:List Nat):∀(sk:List Nat) (st:St) {k:Nat→St→Option R} {kw:St→Option R},(∀st,Lim (fun n=>k n st) (kw st))→
 Lim (fun n=>Dw P A (O n) fn rid os sk is st (k n)) (Dw P A W fn rid os sk is st kw):=by
 induction is with
 |nil=>intro sk st k kw hk;exact hk st
 |cons i is ih=>
  intro sk st k kw hk
  simp only[Dw]
  split
  ·exact Lim.const _
  ·split
   ·exact WN hO _ _ _ _ _ fun st=>ih _ st hk
   ·split
    ·exact Lim.const _
    ·split
     ·split
      ·exact ih _ _ hk
      ·exact Lim.const _
     ·refine Lim.ite _ ?_ ?_
      ·exact Lim.cond _ (WN hO _ _ _ _ _ fun st=>ih _ st hk) (ih _ _ hk)
      ·exact Lim.cond _ (ih _ _ hk) (WN hO _ _ _ _ _ fun st=>ih _ st hk)
theorem AD5 (fn blk n:Nat) (st:St) {k:Nat→St→Option R} {kw:St→Option R} (hk:∀st,Lim (fun n=>k n st) (kw st)):
 Lim (fun j=>cut A fn blk n st (k j)) (cut A fn blk n st kw):=by
 unfold cut
 split
 ·exact hk _
 ·exact Lim.cond _ (hk _) (Lim.const _)
 ·exact hk _
theorem ABC (hO:LimO O W) (fn:FuncId) (blk:Nat) (b:Code) (st:St) {k:Nat→Ex→St→Option R} {kw:Ex→St→Option R} (hk:∀e st,Lim (fun n=>k n e st) (kw e st)):
 Lim (fun n=>lp (O n) fn blk b (k n) st) (lp W fn blk b kw st):=(hO.loop ..).bind fun r=>hk _ _
theorem JP (hO:LimO O W) (fn:FuncId) (c:Code):∀(blk:Nat) (st:St) {k:Nat→Ex→St→Option R} {kw:Ex→St→Option R},(∀e st,Lim (fun n=>k n e st) (kw e st))→
 Lim (fun n=>Bh P A (O n) fn blk c st (k n)) (Bh P A W fn blk c st kw):=by
 induction c with
 |skip=>intro blk st k kw hk;exact hk _ _
 |region id os d=>intro blk st k kw hk;exact Lim.cond _ (Xi hO _ _ _ _ _ _ fun st=>hk _ _) (Lim.const _)
 |seq a b iha ihb=>
  intro blk st k kw hk
  simp only[Bh]
  refine iha blk st fun e st=> ?_
  cases e with
  |normal=>exact ihb blk st hk
  |exit j=>exact hk _ _
  |ret=>exact hk _ _
 |cond c a b iha ihb=>intro blk st k kw hk;exact Lim.ite _ (iha _ _ hk) (ihb _ _ hk)
 |block id b ih=>
  intro blk st k kw hk
  simp only[Bh]
  refine ih id st fun e st=> ?_
  cases e with
  |normal=>exact hk _ _
  |exit j=>exact Lim.cond _ (hk _ _) (hk _ _)
  |ret=>exact hk _ _
 |loop b ih=>intro blk st k kw hk;exact ABC hO _ _ _ _ hk
 |exit id=>intro blk st k kw hk;exact hk _ _
 |ret=>intro blk st k kw hk;exact hk _ _
 |_=>intros;exact Lim.const _
theorem Zm (hO:LimO O W) (D:PairD) (st:St) {k:Nat→St→Option R} {kw:St→Option R} (hk:∀st,Lim (fun n=>k n st) (kw st)):Lim (fun n=>Kz P A (O n) D st (k n)) (Kz P A W D st kw):=by
 unfold Kz
 refine Lim.cond _ ((hO.call ..).bind fun r=> ?_) (Lim.const _)
 split
 ·exact(Lim.const _).bind fun bs=>(Lim.const _).bind fun a=>Lim.cond _ ((Lim.const _).bind fun h'=>hk _) (Lim.const _)
 ·exact Lim.const _
theorem Zn (hO:LimO O W) (fn:FuncId):∀(n:Nat) (c:Code) (st:St) {k:Nat→Ex→St→Option R} {kw:Ex→St→Option R},(∀e st,Lim (fun n=>k n e st) (kw e st))→
 Lim (fun m=>chain P A (O m) fn n c st (k m)) (chain P A W fn n c st kw):=by
 intro n
 induction n with
 |zero=>
  intro c st k kw hk
  unfold chain
  split
  ·exact(Lim.const _).bind fun D=>Xi hO _ _ _ _ _ _ fun st=>Zm hO _ _ fun st=>JP hO fn _ 0 _ hk
  ·rename_i h;cases h
  ·exact Lim.const _
 |succ n ih=>
  intro c st k kw hk
  unfold chain
  split
  ·rename_i h;cases h
  ·rename_i h
   cases h
   refine JP hO fn _ 0 _ fun e st=> ?_
   cases e with
   |normal=>exact ih _ _ hk
   |exit j=>exact hk _ _
   |ret=>exact hk _ _
  ·exact Lim.const _
theorem Zo (hO:LimO O W) (f:FuncId) (c:Code) (st:St) {k:Nat→Ex→St→Option R} {kw:Ex→St→Option R} (hk:∀e st,Lim (fun n=>k n e st) (kw e st)):
 Lim (fun m=>IU P A (O m) f c st (k m)) (IU P A W f c st kw):=by
 unfold IU
 split
 ·exact JP hO f _ 0 _ hk
 ·exact Zn hO f _ _ _ hk
theorem NG (hO:LimO O W) (f:FuncId) (vs h:List V):Lim (fun n=>body P A (O n) f vs h) (body P A W f vs h):=by
 unfold body
 refine Lim.cond _ (Lim.const _) ?_
 split
 ·exact Lim.const _
 ·split
  ·exact Lim.const _
  ·exact Lim.cond _ (Zo hO f _ _ fun e st=>Lim.const _) (Lim.const _)
theorem KC (hO:LimO O W) (fn:FuncId) (blk:Nat) (b:Code) (st:St):Lim (fun n=>round P A (O n) fn blk b st) (round P A W fn blk b st):=by
 unfold round
 refine JP hO fn b blk st fun e st'=> ?_
 cases e with
 |normal=>exact AD5 _ _ _ _ fun st=>ABC hO _ _ _ _ fun e st=>Lim.const _
 |exit j=>exact Lim.const _
 |ret=>exact Lim.const _
end
section
variable (P:Program) (A:Ann)
open Classical in
def GK (f:FuncId) (vs h:List V):Option (V×List V):=
 if x:∃r k,GY P A k f vs h=some r then some x.choose else none
open Classical in
def QD (fn:FuncId) (blk:Nat) (b:Code) (st:St):Option (Ex×St):=
 if x:∃r k,IV P A k fn blk b st=some r then some x.choose else none
def GZ:Orc:=⟨GK P A,QD P A⟩
end
section
variable {P:Program} {A:Ann}
theorem Xj (k:Nat):(∀f vs h r,GY P A k f vs h=some r→GY P A (k+1) f vs h=some r)∧(∀fn blk b st r,IV P A k fn blk b st=some r→IV P A (k+1) fn blk b st=some r):=by
 induction k with
 |zero=>exact⟨fun _ _ _ _ h=>by simp[GY]at h,fun _ _ _ _ _ h=>by simp[IV]at h⟩
 |succ k ih=>
  have hl:LimO (fun n=>if n=0 then GN P A k else GN P A (k+1)) (GN P A (k+1)):=by
   constructor
   ·intro f vs h
    refine⟨fun n r hr=> ?_,fun r=>⟨fun hr=>⟨1,by simpa using hr⟩,fun⟨n,hn⟩=> ?_⟩⟩
    ·by_cases h0:n=0
     ·subst h0;simpa [GN]using ih.1 _ _ _ _ (by simpa [GN]using hr)
     ·simpa [h0]using hr
    ·by_cases h0:n=0
     ·subst h0;exact ih.1 _ _ _ _ (by simpa [GN]using hn)
     ·simpa [h0]using hn
   ·intro fn blk b st
    refine⟨fun n r hr=> ?_,fun r=>⟨fun hr=>⟨1,by simpa using hr⟩,fun⟨n,hn⟩=> ?_⟩⟩
    ·by_cases h0:n=0
     ·subst h0;simpa [GN]using ih.2 _ _ _ _ _ (by simpa [GN]using hr)
     ·simpa [h0]using hr
    ·by_cases h0:n=0
     ·subst h0;exact ih.2 _ _ _ _ _ (by simpa [GN]using hn)
     ·simpa [h0]using hn
  constructor
  ·intro f vs h r hr
   have:=(NG (P:=P) (A:=A) hl f vs h).up 0 r (by simpa [GY,GN]using hr)
   simpa [GY,GN]using this
  ·intro fn blk b st r hr
   have:=(KC (P:=P) (A:=A) hl fn blk b st).up 0 r (by simpa [IV,GN]using hr)
   simpa [IV,GN]using this
theorem Lim.of_choose {R:Type} {F:Nat→Option R} (up:∀k r,F k=some r→F (k+1)=some r) {G:Option R}
 (h1:∀r,G=some r→∃k,F k=some r) (h2:∀k r,F k=some r→G.isSome):Lim F G:=by
 refine⟨up,fun r=>⟨h1 r,fun⟨k,hk⟩=> ?_⟩⟩
 obtain⟨r',hr'⟩:=Option.isSome_iff_exists.1 (h2 k r hk)
 obtain⟨j,hj⟩:=h1 r' hr'
 have m:∀{a b:Nat} {x:R},a≤b→F a=some x→F b=some x:=by
  intro a b x hab ha
  induction hab with
  |refl=>exact ha
  |step _ ih=>exact up _ _ ih
 have e1:=m (Nat.le_max_left k j) hk
 have e2:=m (Nat.le_max_right k j) hj
 rw[hr',←Option.some.inj (e1.symm.trans e2)]
theorem Gf:LimO (GN P A) (GZ P A):=by
 constructor
 ·intro f vs h
  refine Lim.of_choose (fun k r hr=>(Xj k).1 _ _ _ _ hr) (fun r hr=> ?_) (fun k r hr=> ?_)
  ·simp only[GZ,GK]at hr
   split at hr
   ·rename_i x;obtain rfl:=Option.some.inj hr;exact x.choose_spec
   ·cases hr
  ·simp only[GZ,GK];rw[dif_pos ⟨r,k,hr⟩];rfl
 ·intro fn blk b st
  refine Lim.of_choose (fun k r hr=>(Xj k).2 _ _ _ _ _ hr) (fun r hr=> ?_) (fun k r hr=> ?_)
  ·simp only[GZ,QD]at hr
   split at hr
   ·rename_i x;obtain rfl:=Option.some.inj hr;exact x.choose_spec
   ·cases hr
  ·simp only[GZ,QD];rw[dif_pos ⟨r,k,hr⟩];rfl
theorem Lim.unique {R:Type} {F:Nat→Option R} {G G':Option R} (h:Lim F G) (h':Lim F G'):G=G':=by
 cases hg:G with
 |some r=>exact((h'.lim r).2 ((h.lim r).1 hg)).symm
 |none=>
  cases hg':G' with
  |none=>rfl
  |some r=>have:=(h.lim r).2 ((h'.lim r).1 hg');rw[hg]at this;cases this
theorem Lim.tail {R:Type} {F:Nat→Option R} {G:Option R} (h:Lim F G):Lim (fun k=>F (k+1)) G:=
 ⟨fun k r hk=>h.up _ _ hk,fun r=>⟨fun hr=>let ⟨k,hk⟩:=(h.lim r).1 hr;⟨k,h.up _ _ hk⟩,fun⟨k,hk⟩=>(h.lim r).2 ⟨_,hk⟩⟩⟩
theorem Ti (f:FuncId) (vs h:List V):GK P A f vs h=body P A (GZ P A) f vs h:=
 Lim.unique ((Gf (P:=P) (A:=A)).call f vs h).tail (NG Gf f vs h)
theorem Tj (fn:FuncId) (blk:Nat) (b:Code) (st:St):QD P A fn blk b st=round P A (GZ P A) fn blk b st:=
 Lim.unique ((Gf (P:=P) (A:=A)).loop fn blk b st).tail (KC Gf fn blk b st)
theorem Zp {f:FuncId} {vs h:List V} {r:V×List V}:GK P A f vs h=some r↔∃k,GY P A k f vs h=some r:=
 ((Gf (P:=P) (A:=A)).call f vs h).lim r
end
section
variable {P:Program} {A:Ann} {O:Orc} {R S:Type}
theorem V.ite_bind (c:V) (a b:Option R) (k:R→Option S):(V.ite c a b).bind k=V.ite c (a.bind k) (b.bind k):=by
 cases c with
 |bool b=>cases b<;>rfl
 |_=>rfl
theorem Ip (x:V) (vs h:List V) (k:V→List V→Option R) (k':R→Option S):
 (Cj P A O x vs h k).bind k'=Cj P A O x vs h fun v h=>(k v h).bind k':=by
 unfold Cj GV mnz
 split
 ·split
  ·split
   ·dsimp only;split<;>rfl
   ·dsimp only;split<;>rfl
   ·rfl
  ·split
   ·rw[Option.bind_assoc]
   ·split<;>rw[Option.bind_assoc]
 ·rfl
theorem WO (hd:Option V) (x:V) (vs h:List V) (k:V→List V→Option R) (k':R→Option S):
 (EQ P A O hd x vs h k).bind k'=EQ P A O hd x vs h fun v h=>(k v h).bind k':=by
 unfold EQ
 split
 ·exact Ip ..
 ·split
  ·split
   ·rw[Ip]
    congr 1;funext v h'
    split<;>rfl
   ·rfl
  ·rfl
 ·rfl
theorem WQ (kp:Bool) (hd:Option V) (l:List V) (x:V) (vs h:List V) (k:V→List V→Option R) (k':R→Option S):
 (EG P A O kp hd l x vs h k).bind k'=EG P A O kp hd l x vs h fun v h=>(k v h).bind k':=by
 unfold EG
 split
 ·exact WO ..
 ·rw[Option.bind_assoc]
  congr 1;funext m
  rw[Ip]
  congr 1;funext v h
  split<;>rfl
theorem ABD (fn:FuncId) (rid i:Nat) (o:Oper) (st:St) (k:St→Option R) (k':R→Option S):
 (op0 P A O fn rid i o st k).bind k'=op0 P A O fn rid i o st fun st=>(k st).bind k':=by
 unfold op0
 split
 ·split<;>rfl
 ·split<;>rfl
 ·rw[V.ite_bind]
 ·rfl
 ·dsimp only;split<;>rfl
 ·split
  ·rw[Option.bind_assoc]
  ·rfl
 ·split
  ·split<;>rw[Option.bind_assoc]
  ·rfl
 ·split
  ·rw[Option.bind_assoc]
  ·rfl
 ·rw[Option.bind_assoc]
  congr 1;funext v
  dsimp only
  split
  ·split
   ·rw[Option.bind_assoc]
   ·rfl
  ·split<;>rfl
 ·rw[WQ]
  congr 1;funext v h
  split<;>rfl
 ·rw[Option.bind_assoc]
  congr 1;funext v
  split
  ·rw[Option.bind_assoc]
  ·rfl
theorem RQ (fn:FuncId) (rid i:Nat) (o:Oper) (st:St) (k:St→Option R) (k':R→Option S):
 (op P A O fn rid i o st k).bind k'=op P A O fn rid i o st fun st=>(k st).bind k':=by
 unfold op
 split
 ·exact ABD ..
 ·rfl
theorem Tm (fn:FuncId) (rid:Nat) (os:Array Oper) (k':R→Option S) (is:List Nat):∀(sk:List Nat) (st:St) (k:St→Option R),
 (Dw P A O fn rid os sk is st k).bind k'=Dw P A O fn rid os sk is st fun st=>(k st).bind k':=by
 induction is with
 |nil=>intros;rfl
 |cons i is ih=>
  intro sk st k
  simp only[Dw]
  split
  ·rfl
  ·split
   ·rw[RQ];congr 1;funext st;exact ih _ st k
   ·split
    ·rfl
    ·split
     ·split
      ·exact ih _ _ k
      ·rfl
     ·rw[V.ite_bind]
      congr 1
      ·split
       ·rw[RQ];congr 1;funext st;exact ih _ st k
       ·exact ih _ _ k
      ·split
       ·exact ih _ _ k
       ·rw[RQ];congr 1;funext st;exact ih _ st k
theorem ABE (fn blk n:Nat) (st:St) (k:St→Option R) (k':R→Option S):(cut A fn blk n st k).bind k'=cut A fn blk n st fun st=>(k st).bind k':=by
 unfold cut
 split
 ·rfl
 ·split<;>rfl
 ·rfl
theorem Xk (fn:FuncId) (blk:Nat) (b:Code) (st:St) (k:Ex→St→Option R) (k':R→Option S):(lp O fn blk b k st).bind k'=lp O fn blk b (fun e st=>(k e st).bind k') st:=by
 unfold lp;rw[Option.bind_assoc]
theorem QE (fn:FuncId) (k':R→Option S) (c:Code):∀(blk:Nat) (st:St) (k:Ex→St→Option R),
 (Bh P A O fn blk c st k).bind k'=Bh P A O fn blk c st fun e st=>(k e st).bind k':=by
 induction c with
 |skip=>intros;rfl
 |region id os d=>
  intro blk st k
  simp only[Bh]
  split
  ·exact Tm ..
  ·rfl
 |seq a b iha ihb=>
  intro blk st k
  simp only[Bh]
  rw[iha]
  congr 1;funext e st
  cases e with
  |normal=>exact ihb ..
  |exit j=>rfl
  |ret=>rfl
 |cond c a b iha ihb=>intro blk st k;simp only[Bh];rw[V.ite_bind,iha,ihb]
 |block id b ih=>
  intro blk st k
  simp only[Bh]
  rw[ih]
  congr 1;funext e st
  cases e with
  |normal=>rfl
  |exit j=>simp only[RN];split<;>rfl
  |ret=>rfl
 |loop b ih=>intro blk st k;simp only[Bh];exact Xk ..
 |exit id=>intros;rfl
 |ret=>intros;rfl
 |_=>intros;rfl
end
section
variable {P:Program} {A:Ann} {R:Type}
theorem AJc (fn:FuncId) (blk:Nat) (b:Code) (k:Ex→St→Option R) (st:St):
 lp (GZ P A) fn blk b k st=Bh P A (GZ P A) fn blk b st (Td A (GZ P A) fn blk st.h.length b k):=by
 show(QD P A fn blk b st).bind _=_
 rw[Tj]
 unfold round
 rw[QE]
 congr 1;funext e st'
 cases e with
 |normal=>exact(ABE ..).trans (congrArg _ (funext fun st=>Xk ..))
 |exit j=>rfl
 |ret=>rfl
end
def lft:Code→Code| .seq a _=>a| .cond _ a _=>a| .block _ b=>b| .loop b=>b|_=> .skip
def rgt:Code→Code| .seq _ b=>b| .cond _ _ b=>b|_=> .skip
def AJd:Code→Bool| .seq _ _=>true|_=>false
def AHU:Code→Bool| .cond _ _ _=>true|_=>false
def AHV:Code→Bool| .skip=>true|_=>false
def AJe:Code→Operand| .cond x _ _=>x|_=>default
def place:Nat→Nat→Code→Code
 |0,_,c=>c
 |k+1,n,c=>bif Nat.ble n 1 then c else place k (n/2) (bif Nat.beq (n%2) 0 then lft c else rgt c)
def codeOf (P:Program) (f:FuncId):Code:=match P.funcs[f]? with
 |some fn=>fn.body.getD .skip
 |none=> .skip
def funcOf (P:Program) (f:FuncId):Func:=match P.funcs[f]? with
 |some fn=>fn
 |none=>default
def AL3 (P:Program) (f n:Nat):Code:=place 64 n (codeOf P f)
section
variable {P:Program} {A:Ann} {O:Orc} {R:Type} {fn blk:Nat} {st:St} {k:Ex→St→Option R} {r:Option R} {C:Code}
theorem LC (H:Bh P A O fn blk (lft C) st (Zi (Bh P A O fn blk (rgt C)) k)=r) (h:AJd C=true:=by kernel_rfl):Bh P A O fn blk C st k=r:=by
 cases C<;>first|exact H|cases h
theorem WR {x:V} {a b:Option R} (H:Bh P A O fn blk (lft C) st k=a) (H':Bh P A O fn blk (rgt C) st k=b) (h:AHU C=true:=by kernel_rfl) (hx:st.ev P A 0 (AJe C)=x:=by kernel_rfl):Bh P A O fn blk C st k=V.ite x a b:=by
 subst H H' hx
 cases C<;>first|rfl|cases h
theorem ABF (H:k .normal st=r) (h:AHV C=true:=by kernel_rfl):Bh P A O fn blk C st k=r:=by
 cases C<;>first|exact H|cases h
theorem Tn {α:Type} (mk:(St→Option R)→α) {F:α→Option R} {k2:α} (H:mk (k .normal)=k2) (h:∀K:Ex→St→Option R,Bh P A O fn blk C st K=F (mk (K .normal)):=by intro;kernel_rfl):Bh P A O fn blk C st k=F k2:=H▸h k
def jn {α β:Type} (k:α) (f:α→β):β:=f k
theorem AL4 {α:Type} (mk:(St→Option R)→α) {F:α→Option R} {k2:α} (H:mk (k .normal)=k2) (h:Bh P A O fn blk C st k=F (mk (k .normal))):Bh P A O fn blk C st k=jn k2 F:=H▸h
theorem Iq {f:St→(Ex→St→Option R)→Option R} (H:f st k=r):Zi f k .normal st=r:=H
end
def WS (P:Program) (f n:Nat):Bool:=match P.funcs[f]? with
 |some fn=>fn.body.isSome&&Nat.ble n fn.ntmps
 |none=>false
theorem AJf {P:Program} {A:Ann} {f:FuncId} {vs h:List V} {n:Nat} {r:Option (V×List V)}
 (H:IU P A (GZ P A) f (codeOf P f) ⟨Pm 0 vs,h⟩ (NF P A f (funcOf P f) n)=r) (ok:WS P f vs.length=true:=by kernel_rfl) (hn:h.length=n:=by rfl) (hb:A.bad f=false:=by kernel_rfl):GK P A f vs h=r:=by
 subst hn
 refine(Ti ..).trans ?_
 unfold body
 rw[if_neg (by rw[hb];exact Bool.false_ne_true)]
 unfold WS at ok
 unfold codeOf funcOf at H
 cases hf:P.funcs[f]? with
 |none=>rw[hf]at ok;cases ok
 |some fn=>
  simp only[hf,Bool.and_eq_true]at ok H
  cases hb:fn.body with
  |none=>rw[hb]at ok;cases ok.1
  |some c=>
   simp only[hb,Option.getD_some]at H
   simp only[hb]
   rw[if_pos (Nat.le_of_ble_eq_true ok.2)]
   exact H
theorem Au {P:Program} {A:Ann} {f:FuncId} {vs h:List V} {n:Nat} {r:Option (V×List V)}
 (H:Bh P A (GZ P A) f 0 (codeOf P f) ⟨Pm 0 vs,h⟩ (NF P A f (funcOf P f) n)=r) (ok:WS P f vs.length=true:=by kernel_rfl) (hn:h.length=n:=by rfl) (hp:A.pair f=0:=by kernel_rfl) (hb:A.bad f=false:=by kernel_rfl):GK P A f vs h=r:=
 AJf (by unfold IU;rw[hp];exact H) ok hn hb
theorem DK {P:Program} {A:Ann} {R:Type} {fn blk:Nat} {b:Code} {k:Ex→St→Option R} {st:St} {r:Option R}
 (H:Bh P A (GZ P A) fn blk b st (Td A (GZ P A) fn blk st.h.length b k)=r):lp (GZ P A) fn blk b k st=r:=(AJc ..).trans H
end AM
end
section
namespace AM
open Go
def tyB (v:V):Bool:=match v with| .bool _=>true|_=>false
def Pv (k:IntKind) (v:V):Bool:=match v with| .int k' _=>decide (k'=k)|_=>false
def Xl (v:V):Bool:=match v with| .str _=>true|_=>false
def tyP (v:V):Bool:=match v with| .ref _ _ _=>true| .rop _ _=>true| .nilp=>true|_=>false
def tyF (v:V):Bool:=match v with| .clo _ _=>true| .nilf=>true|_=>false
def Xm (e:TypeId) (v:V):Bool:=match v with| .lst e' _ _=>e'==e| .win _ _ _ _ e'=>e'==e|_=>false
def CG (u:TypeId) (v:V):Bool:=match v with| .agg t' _=>t'==u|_=>false
def fA (s ft:TypeId) (f:Nat) (a:V):Option V:=match a with
 | .ref id p t=>if t=s then some (.ref id (p++[f]) ft)else none
 | .rop t x=>if t=s then(match x with
   | .agg _ xs=>(xs[f]?).map (.rop ft)
   |_=>none)else none
 |_=>none
def cpB (hs:Bool) (v:V):V:=if hs=true then v.weak else v
def nlB (hs:Bool) (vs:List V):List V:=if hs=true then AY vs else vs
def fV (u:TypeId) (f:Nat) (hs:Bool) (x:V):Option V:=match x with
 | .agg t xs=>if t=u then(xs[f]?).map (cpB hs)else none
 |_=>none
def lnS (x:V):Option V:=match x with| .str s=>some (.int .i64 s.length)|_=>none
def J8 (x:V):Option V:=match x with| .lst _ _ xs=>some (.int .i64 xs.length)| .win _ _ _ len _=>some (.int .i64 len)|_=>none
def Gg (e:TypeId) (x i:V):Option V:=match i with
 | .int _ i=>match x with
   | .lst e' _ xs=>if e'=e&&inside i xs.length then(xs[i.toNat]?).map (.rop e)else none
   | .win id p off len e'=>if e'=e&&inside i len then some (.ref id (p++[off+i.toNat]) e)else none
   |_=>none
 |_=>none
def ixA (t u:TypeId) (n:Nat) (e:TypeId) (x i:V):Option V:=match i with
 | .int _ i=>match x with
   | .ref id p t'=>if t'=t&&inside i n then some (.ref id (p++[i.toNat]) e)else none
   | .rop t' y=>if t'=t&&inside i n then(match y with
     | .agg u' xs=>if u'=u then(xs[i.toNat]?).map (.rop e)else none
     |_=>none)else none
   |_=>none
 |_=>none
def ixT (x i:V):Option V:=match i with
 | .int _ i=>match x with
   | .str s=>if inside i s.length then(s[i.toNat]?).map fun b=> .int .u8 b.toNat else none
   | .agg _ _=>none
   |_=>none
 |_=>none
def slT (x:V) (lo hi:Option V):Option V:=match x with
 | .str s=>(BP s.length lo hi none).map fun b=> .str ((s.take b.2).drop b.1)
 | .lst _ _ _=>none
 | .win _ _ _ _ _=>none
 | .ref _ _ _=>none
 | .rop _ _=>none
 |_=>none
def slL (e:TypeId) (x:V) (lo hi mx:Option V):Option V:=match x with
 | .str _=>none
 | .lst e1 f xs=>if e=e1 then(BP xs.length lo hi mx).map fun b=> .lst e1 f.cut ((xs.take b.2).drop b.1)else none
 | .win id p off len e1=>if e=e1 then(BP len lo hi mx).map fun b=> .win id p (off+b.1) (b.2-b.1) e1 else none
 | .ref _ _ _=>none
 | .rop _ _=>none
 |_=>none
def slA (t u:TypeId) (n:Nat) (e:TypeId) (x:V) (lo hi mx:Option V):Option V:=match x with
 | .str _=>none
 | .lst _ _ _=>none
 | .win _ _ _ _ _=>none
 | .ref id p t'=>if t'=t then(BP n lo hi mx).map fun b=> .win id p b.1 (b.2-b.1) e else none
 | .rop t' y=>if t'=t then(match y with
   | .agg u' xs=>if u'=u then(BP n lo hi mx).map fun b=> .lst e .lent ((xs.take b.2).drop b.1)else none
   |_=>none)else none
 |_=>none
def ck {α:Type}:List Bool→α→Option α
 |[],x=>some x
 |b::bs,x=>if b=true then ck bs x else none
def Tq (e:TypeId) (hs:Bool) (o:Option (List V)):Option V:=o.map fun xs=> .lst e (if AQ xs then .own else .lent) (nlB hs xs)
def mkL (e:TypeId) (z n c:V):Option V:=match n,c with
 | .int _ n,.int _ c=>if 0≤n∧n≤c∧c≤1048576 then some (.lst e .own (List.replicate n.toNat z))else none
 |_,_=>none
def IJ (k:IntKind) (x:V):Option V:=match x with| .int _ n=>some (.int k (k.wrap n))|_=>none
def cvS (x:V):Option V:=match x with| .str s=>some (.str s)|_=>none
def cvB (e:TypeId) (x:V):Option V:=match x with| .str s=>if s.length≤DV then some (.lst e .own (bytesOf s))else none|_=>none
def cvT (h:List V) (x:V):Option V:=match x with| .str s=>some (.str s)|x=>((Ad h x).bind D5).map .str
def RS (e:TypeId) (ty:V→Bool) (hs:Bool) (h:List V) (x y:V):Option V:=match x with
 | .lst e' f xs=>if e'=e&&(f== .own||f== .nil)then
  (Ad h y).bind fun ys=>if AQ ys&&ys.all ty&&decide (xs.length+ys.length≤DV)then some (.lst e (if f== .nil&&ys.isEmpty then .nil else .own) (xs++nlB hs ys))else none
   else none
 |_=>none
def FT (ty:V→Bool) (t:TypeId) (h:List V) (a v:V):Option (List V):=match a with
 | .ref id p t'=>if t'=t then(if ty v&&v.under (id+1)then wr h id p v else none)else none
 |_=>none
def Xn (ty:V→Bool) (op:BinOp) (x y:V):Option V:=
 if(ty x&&ty y)=true then
  match op with
  | .eql=>(JL x y).map .bool
  | .neq=>(JL x y).map fun r=> .bool (!r)
  |_=>none
 else none
end AM
end
end Go.Proofs.YtoakaehjnbhgmaaGreatDoor
