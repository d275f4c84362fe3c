/-
  Part of the proof of a statement about the given program: an abstract machine over its code, the simulation, its functions' equations, what they compute.
-/
import Derived.SevenTiedAt
import Derived.Test.YtaghnpjlhmgioaaDoorCards
import Derived.Test.YtaghnpjlhmgioaaDoorMg26
import Derived.Test.YtaghnpjlhmgioaaDoorMg31
import Derived.Test.YtaghnpjlhmgioaaDoorTie
set_option linter.unusedVariables false
set_option linter.unusedSimpArgs false
set_option linter.unusedSectionVars false
noncomputable section
namespace Go.Proofs.YtaghnpjlhmgioaaDoor
section
namespace RowGraphReads
open Go AM Go.Proofs.YtaghnpjlhmgioaaDoor
open Go.ChangeShapes Go.WideShapes Go.ChangeAt Go.RowKit
def Am:Prop:=∀vs:List V,Jq (Qy P 8) [9] vs=true→∃h,Cl 5 vs []=some (.bool true,h)
set_option maxRecDepth 100000 in
theorem AGc (am:Am) (os:Os) (started:os.Started) (H:Type) (enc:TypeId×Value→H):
 ReturnsInHanded {} Tryd.checked os 5 .any (fun w args=>(Rows.graphReadsSpec.pre enc Tryd.prog Tryd.f5 [] false w args∧laidMetH Tryd.prog Q7 w)∧sizedMet enc Tryd.prog Tryd.f5 (OpenSpec.ofChange Rows.graphReadsSpec) false w args)
  (Rows.graphReadsSpec.post enc Tryd.prog Tryd.f5 false true false false):=by
 refine returnsInHanded_of_change_and (C:=Tryd.checked) (X:=fun w _=>laidMetH Tryd.prog Q7 w) (fun _ _ _ hh h=>h.of_heap hh) ACy started (by kernel_rfl) Tryd.func5
  (ChangeSpec.witness_shaped (enc:=enc) (C:=Tryd.checked) (os:=os) (X:=fun w _=>laidMetH Tryd.prog Q7 w) false (AEz os) #[.string ByteArray.empty] 8 rfl (World.shaped_of_RefB (by kernel_rfl) (by kernel_rfl)) (by kernel_rfl) (by kernel_rfl) (by kernel_rfl) (ACz os _)) ?_
 intro W base args ds gs before hval0 hW hcnd hsz0 hL _
 have hval:∀(j:Nat) t v,Tryd.f5.params[j]?=some t→args[j]?=some v→Value.okWide Tryd.prog W .any base t v:=hval0
 have hW':=hW
 obtain⟨p,q,hA0,hV,rfl,hfz,hnd⟩:=hW
 have hA:DataW.TrodAll enc Tryd.prog W 0 (fun _=>true) true Tryd.f5.params.toList args.toList ds p:=hA0
 rw[Tryd.params5]at hA hval
 obtain⟨rfl,rfl⟩:=trodVars_none hV
 obtain⟨us,u1,u2,u3,u4⟩:=VX lay (by kernel_rfl) hA fun j t v x y=>hval j t v (by simpa using x) (by simpa using y)
 obtain⟨h,hr⟩:=am us u1
 have hlt:∀x∈p,x.block<W.heap.size:=fun x hx=>hW'.lt x (by simpa using hx)
 have hA2:=hA
 clear hval0 hsz0 hA0
 refine(AC0 hL hr (by simpa using u2) (fun i v c x y=>u3 i v c x (by simpa using y)) u4).mono fun e W' ⟨he,bel⟩=> ?_
 subst he
 obtain⟨v0,vs0,d0,ds0,p0,q0,ha0,rfl,rfl,h0,r0⟩:=trodAll_cons hA2
 obtain⟨rfl,rfl,rfl⟩:=trodAll_nil r0
 exact⟨_,rfl,_,_,_,[],_,[],hW',trodAll_mk1 (shut_bool Tryd.underlying4 _),Qz ACx bel (by kernel_rfl) hA hlt,rfl,bel.frame _,fun h=>by cases h⟩
theorem over (am:Am):Rows.graphReadsRow.holds Tryd.pinned (OpenSpec.ofChange Rows.graphReadsSpec):=
 OpenClaim.holds_of_wide 5 Tryd.f5 rfl rfl rfl rfl rfl rfl rfl ⟨rfl,rfl,rfl,rfl,rfl⟩ rfl rfl rfl rfl rfl (by kernel_rfl) Tryd.func5 (by kernel_rfl)
  (of_decide_eq_true (by kernel_rfl)) (by unfold Func.isWrapper;first|(rw[if_pos (by decide+kernel)];kernel_rfl)|(rw[if_neg (by decide+kernel)];exact⟨rfl,rfl⟩))
  (fun os started H enc _=>AGc am os started H enc)
theorem AGd:∀(j:Nat) (t:TypeId),([9]:List TypeId)[j]?=some t→Tryd.prog.wantsStandIn t=false:=by
 intro j t ht
 have h:([9]:List TypeId).all (fun t=> !Tryd.prog.wantsStandIn t)=true:=by kernel_rfl
 have:=List.all_eq_true.1 h t (List.mem_of_getElem? ht)
 simpa using this
theorem card (am:Am):Rows.GraphReadsCardSaid:=
 Claim7.holds_tied_plain_at .later [] [.data,.data,.data,.data,.sentinel,.sentinel,.pinned] true (true, "529e92d3eed717b0bf097a4ed395976af83909e5ffd5fa7e24616de1ea9647ff") true
  (over am) (fun _ h=>by cases h) (by kernel_rfl) (fun _ h=>by cases h) graphReads_row_tie rfl ⟨rfl,rfl⟩ (by kernel_rfl) rfl
  (fun f fn hf hfn=>by
   obtain rfl:f=5:=Option.some.inj ((show Tryd.prog.funcNamed "modillion/modillionlaw05.GraphReads"=some 5 by kernel_rfl).symm.trans hf) |>.symm
   obtain rfl:fn=Tryd.f5:=(Option.some.inj (Tryd.func5.symm.trans hfn)).symm
   exact⟨by kernel_rfl,fun j t ht=>by
    rw[Tryd.params5]at ht
    exact AGd j t (by simpa using ht)⟩)
  (by kernel_rfl)
end RowGraphReads
end
end Go.Proofs.YtaghnpjlhmgioaaDoor
