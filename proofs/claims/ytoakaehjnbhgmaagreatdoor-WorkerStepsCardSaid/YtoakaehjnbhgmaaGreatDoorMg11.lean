/-
  Part of the proof of a statement about the given program: an abstract machine over its code, the simulation, its functions' equations, what they compute.
-/
import Derived.Sort.AssemblyPlain
import Derived.Sort.LotA
import Derived.Test.YtoakaehjnbhgmaaGreatDoorMg2
set_option linter.unusedVariables false
set_option linter.unusedSimpArgs false
set_option linter.unusedSectionVars false
noncomputable section
namespace Go.Proofs.YtoakaehjnbhgmaaGreatDoor
section
namespace AM
open Go
theorem AKo {k:Nat} (h:Nat.beq k 1=true) (x y:Int×Int×Int):cf3 k x y<0↔x.1<y.1∨x.1=y.1∧x.2.1<y.2.1:=by
 unfold cf3;rw[if_pos h];split<;>omega
theorem AFK {k:Nat} (h:¬Nat.beq k 1=true) (x y:Int×Int×Int):cf3 k x y<0↔x.2.1<y.2.1∨x.2.1=y.2.1∧(x.1<y.1∨x.1=y.1∧x.2.2<y.2.2):=by
 unfold cf3;rw[if_neg h];unfold Vr sg3
 repeat' split
 all_goals omega
theorem VI (k:Nat):Sort.SWO (fun x y=>decide (cf3 k x y<0)):=by
 by_cases h:Nat.beq k 1=true
 ·refine⟨fun x=> ?_,fun x y z=> ?_,fun x y z=> ?_⟩<;>simp only[decide_eq_true_eq,decide_eq_false_iff_not,AKo h]<;>omega
 ·refine⟨fun x=> ?_,fun x y z=> ?_,fun x y z=> ?_⟩<;>simp only[decide_eq_true_eq,decide_eq_false_iff_not,AFK h]<;>omega
theorem OZ (k:Nat):Sort.SWO (fun x y=>decide (Rz k x y<0)):=
 ⟨fun x=>(VI k).irrefl _,fun x y z=>(VI k).trans _ _ _,fun x y z=>(VI k).ntrans _ _ _⟩
theorem Qv (k:Nat) (zs:List (Int×Int×Int)):Sort.PermIn 0 zs.toArray.size zs.toArray (Vy k zs).toArray∧Sort.SortedIn (fun x y=>decide (Rz k x y<0)) 0 zs.toArray.size (Vy k zs).toArray:=by
 have h:=Sort.pdq_sorts _ (OZ k) zs.toArray 0 zs.toArray.size (Lib.bitLen zs.length) true true (Nat.zero_le _) (Nat.le_refl _) (Or.inl rfl)
 simpa only[Vy,List.size_toArray,Array.toArray_toList]using h
theorem JJ (k:Nat) (zs:List (Int×Int×Int)):(Vy k zs).Perm zs:=by
 have h:=(Qv k zs).1
 have h2:=h.2.2
 rw[Array.extract_eq_self_of_le (by rw[h.1];exact Nat.le_refl _),Array.extract_eq_self_of_le (Nat.le_refl _)]at h2
 exact h2
theorem Tq (k:Nat) (z:Int×Int×Int):∀l,(AHJ k z l).Perm (z::l)
 |[]=>List.Perm.refl _
 |y::l=>by
  rw[AHJ]
  split
  ·exact List.Perm.refl _
  ·exact((Tq k z l).cons y).trans (List.Perm.swap z y l)
theorem J4 (k:Nat):∀l,(SY k l).Perm l
 |[]=>List.Perm.refl _
 |z::l=>(Tq k z _).trans ((J4 k l).cons z)
theorem ABv (k:Nat):∀l,str3 k l=true→l.Pairwise (fun x y=>Rz k x y<0)
 |[],_=>List.Pairwise.nil
 |x::l,h=>by
  simp only[str3,Bool.and_eq_true,List.all_eq_true,decide_eq_true_eq]at h
  exact List.pairwise_cons.2 ⟨h.1,ABv k l h.2⟩
theorem VJ (k:Nat) (zs:List (Int×Int×Int)):EZ k zs=Vy k zs:=by
 unfold EZ
 split
 ·rename_i h
  have hp:=ABv k _ h
  have sw:=OZ k
  have asy:∀x y,Rz k x y<0→¬Rz k y x<0:=fun x y h1 h2=>by
   have:=sw.trans x y x (by simpa using h1) (by simpa using h2)
   rw[sw.irrefl x]at this;cases this
  have q1:(SY k zs).Pairwise (fun x y=>¬Rz k y x<0):=hp.imp fun{x y} h=>asy x y h
  have q2:(Vy k zs).Pairwise (fun x y=>¬Rz k y x<0):=by
   have hs:=(Qv k zs).2
   have hl:=(JJ k zs).length_eq
   rw[List.pairwise_iff_getElem]
   intro i j hi hj hij
   have:=hs i j (Nat.zero_le _) hij (by simp;omega)
   simp only[List.getElem!_toArray,List.getElem!_eq_getElem?_getD,List.getElem?_eq_getElem hi,List.getElem?_eq_getElem hj,Option.getD_some,decide_eq_false_iff_not]at this
   exact this
  refine List.Perm.eq_of_pairwise (fun a b ha hb h1 h2=> ?_) q1 q2 ((J4 k zs).trans (JJ k zs).symm)
  have hb':b∈SY k zs:=(J4 k zs).mem_iff.2 ((JJ k zs).mem_iff.1 hb)
  obtain⟨i,hi,rfl⟩:=List.mem_iff_getElem.1 ha
  obtain⟨j,hj,rfl⟩:=List.mem_iff_getElem.1 hb'
  rcases Nat.lt_trichotomy i j with h|h|h
  ·exact absurd (List.pairwise_iff_getElem.1 hp i j hi hj h) h2
  ·subst h;rfl
  ·exact absurd (List.pairwise_iff_getElem.1 hp j i hj hi h) h1
 ·rfl
theorem Xo (k:Nat) (zs:List (Int×Int×Int)):Sort.PermIn 0 zs.toArray.size zs.toArray (EZ k zs).toArray∧Sort.SortedIn (fun x y=>decide (Rz k x y<0)) 0 zs.toArray.size (EZ k zs).toArray:=by
 rw[VJ];exact Qv k zs
theorem JK (k:Nat) (zs:List (Int×Int×Int)):(EZ k zs).Perm zs:=by rw[VJ];exact JJ k zs
theorem IY (k:Nat) (zs:List (Int×Int×Int)):(EZ k zs).length=zs.length:=(JK k zs).length_eq
theorem AFL (k:Nat):EZ k []=[]:=List.eq_nil_of_length_eq_zero (IY k [])
theorem AMY {u:TypeId} {x:V} (h:i3t u x=true):Yr u (t3 x)=x:=by
 unfold i3t at h
 split at h
 ·rw[Nat.eq_of_beq_eq_true h];rfl
 ·cases h
theorem ABw {u:TypeId}:∀{xs:List V},xs.all (i3t u)=true→(xs.map t3).map (Yr u)=xs
 |[],_=>rfl
 |x::xs,h=>by
  simp only[List.all_cons,Bool.and_eq_true]at h
  rw[List.map_cons,List.map_cons,AMY h.1,ABw h.2]
end AM
end
end Go.Proofs.YtoakaehjnbhgmaaGreatDoor
