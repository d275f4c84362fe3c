/-
  Part of the proof of a statement about the given program: an abstract machine over its code, the simulation, its functions' equations, what they compute.
-/
import Derived.Sort.AssemblyPlain
import Derived.Sort.LotA
import Derived.Test.YtphoocnlpnnkdaaGreatDoorMg2
set_option linter.unusedVariables false
set_option linter.unusedSimpArgs false
set_option linter.unusedSectionVars false
noncomputable section
namespace Go.Proofs.YtphoocnlpnnkdaaGreatDoor
section
namespace AM
open Go
theorem ANe {k:Nat} (h:Nat.beq k 1=true) (x y:Int×Int×Int):cf3 k x y<0↔x.1<y.1∨x.1=y.1∧x.2.1<y.2.1:=by
 unfold cf3;rw[if_pos h];split<;>omega
theorem AH1 {k:Nat} (h:¬Nat.beq k 1=true) (x y:Int×Int×Int):cf3 k x y<0↔x.2.1<y.2.1∨x.2.1=y.2.1∧(x.1<y.1∨x.1=y.1∧x.2.2<y.2.2):=by
 unfold cf3;rw[if_neg h];unfold Xe sg3
 repeat' split
 all_goals omega
theorem Wx (k:Nat):Sort.SWO (fun x y=>decide (cf3 k x y<0)):=by
 by_cases h:Nat.beq k 1=true
 ·refine⟨fun x=> ?_,fun x y z=> ?_,fun x y z=> ?_⟩<;>simp only[decide_eq_true_eq,decide_eq_false_iff_not,ANe h]<;>omega
 ·refine⟨fun x=> ?_,fun x y z=> ?_,fun x y z=> ?_⟩<;>simp only[decide_eq_true_eq,decide_eq_false_iff_not,AH1 h]<;>omega
theorem P6 (k:Nat):Sort.SWO (fun x y=>decide (TL k x y<0)):=
 ⟨fun x=>(Wx k).irrefl _,fun x y z=>(Wx k).trans _ _ _,fun x y z=>(Wx k).ntrans _ _ _⟩
theorem Rj (k:Nat) (zs:List (Int×Int×Int)):Sort.PermIn 0 zs.toArray.size zs.toArray (Xi k zs).toArray∧Sort.SortedIn (fun x y=>decide (TL k x y<0)) 0 zs.toArray.size (Xi k zs).toArray:=by
 have h:=Sort.pdq_sorts _ (P6 k) zs.toArray 0 zs.toArray.size (Lib.bitLen zs.length) true true (Nat.zero_le _) (Nat.le_refl _) (Or.inl rfl)
 simpa only[Xi,List.size_toArray,Array.toArray_toList]using h
theorem KD (k:Nat) (zs:List (Int×Int×Int)):(Xi k zs).Perm zs:=by
 have h:=(Rj k zs).1
 have h2:=h.2.2
 rw[Array.extract_eq_self_of_le (by rw[h.1];exact Nat.le_refl _),Array.extract_eq_self_of_le (Nat.le_refl _)]at h2
 exact h2
theorem Un (k:Nat) (z:Int×Int×Int):∀l,(AKO k z l).Perm (z::l)
 |[]=>List.Perm.refl _
 |y::l=>by
  rw[AKO]
  split
  ·exact List.Perm.refl _
  ·exact((Un k z l).cons y).trans (List.Perm.swap z y l)
theorem Le (k:Nat):∀l,(Tf k l).Perm l
 |[]=>List.Perm.refl _
 |z::l=>(Un k z _).trans ((Le k l).cons z)
theorem AC5 (k:Nat):∀l,str3 k l=true→l.Pairwise (fun x y=>TL k x y<0)
 |[],_=>List.Pairwise.nil
 |x::l,h=>by
  simp only[str3,Bool.and_eq_true,List.all_eq_true,decide_eq_true_eq]at h
  exact List.pairwise_cons.2 ⟨h.1,AC5 k l h.2⟩
theorem Wy (k:Nat) (zs:List (Int×Int×Int)):Fa k zs=Xi k zs:=by
 unfold Fa
 split
 ·rename_i h
  have hp:=AC5 k _ h
  have sw:=P6 k
  have asy:∀x y,TL k x y<0→¬TL k y x<0:=fun x y h1 h2=>by
   have:=sw.trans x y x (by simpa using h1) (by simpa using h2)
   rw[sw.irrefl x]at this;cases this
  have q1:(Tf k zs).Pairwise (fun x y=>¬TL k y x<0):=hp.imp fun{x y} h=>asy x y h
  have q2:(Xi k zs).Pairwise (fun x y=>¬TL k y x<0):=by
   have hs:=(Rj k zs).2
   have hl:=(KD k zs).length_eq
   rw[List.pairwise_iff_getElem]
   intro i j hi hj hij
   have:=hs i j (Nat.zero_le _) hij (by simp;omega)
   simp only[List.getElem!_toArray,List.getElem!_eq_getElem?_getD,List.getElem?_eq_getElem hi,List.getElem?_eq_getElem hj,Option.getD_some,decide_eq_false_iff_not]at this
   exact this
  refine List.Perm.eq_of_pairwise (fun a b ha hb h1 h2=> ?_) q1 q2 ((Le k zs).trans (KD k zs).symm)
  have hb':b∈Tf k zs:=(Le k zs).mem_iff.2 ((KD k zs).mem_iff.1 hb)
  obtain⟨i,hi,rfl⟩:=List.mem_iff_getElem.1 ha
  obtain⟨j,hj,rfl⟩:=List.mem_iff_getElem.1 hb'
  rcases Nat.lt_trichotomy i j with h|h|h
  ·exact absurd (List.pairwise_iff_getElem.1 hp i j hi hj h) h2
  ·subst h;rfl
  ·exact absurd (List.pairwise_iff_getElem.1 hp j i hj hi h) h1
 ·rfl
theorem Yo (k:Nat) (zs:List (Int×Int×Int)):Sort.PermIn 0 zs.toArray.size zs.toArray (Fa k zs).toArray∧Sort.SortedIn (fun x y=>decide (TL k x y<0)) 0 zs.toArray.size (Fa k zs).toArray:=by
 rw[Wy];exact Rj k zs
theorem KE (k:Nat) (zs:List (Int×Int×Int)):(Fa k zs).Perm zs:=by rw[Wy];exact KD k zs
theorem Ja (k:Nat) (zs:List (Int×Int×Int)):(Fa k zs).length=zs.length:=(KE k zs).length_eq
theorem AH2 (k:Nat):Fa k []=[]:=List.eq_nil_of_length_eq_zero (Ja k [])
theorem AQG {u:TypeId} {x:V} (h:i3t u x=true):Z4 u (t3 x)=x:=by
 unfold i3t at h
 split at h
 ·rw[Nat.eq_of_beq_eq_true h];rfl
 ·cases h
theorem AC6 {u:TypeId}:∀{xs:List V},xs.all (i3t u)=true→(xs.map t3).map (Z4 u)=xs
 |[],_=>rfl
 |x::xs,h=>by
  simp only[List.all_cons,Bool.and_eq_true]at h
  rw[List.map_cons,List.map_cons,AQG h.1,AC6 h.2]
end AM
end
end Go.Proofs.YtphoocnlpnnkdaaGreatDoor
