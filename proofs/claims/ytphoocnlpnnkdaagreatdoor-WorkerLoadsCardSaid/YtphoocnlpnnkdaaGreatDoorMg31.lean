/-
  A part.
-/
import Derived.SevenTiedAt
import Derived.Test.YtphoocnlpnnkdaaGreatDoorCards
import Derived.Test.YtphoocnlpnnkdaaGreatDoorMg24
import Derived.Test.YtphoocnlpnnkdaaGreatDoorMg30
import Derived.Test.YtphoocnlpnnkdaaGreatDoorTie
set_option linter.unusedVariables false
set_option linter.unusedSimpArgs false
set_option linter.unusedSectionVars false
noncomputable section
namespace Go.Proofs.YtphoocnlpnnkdaaGreatDoor
section
namespace RowWorkerLoads
open Go AM Go.Proofs.YtphoocnlpnnkdaaGreatDoor
open Go.ChangeShapes Go.WideShapes Go.ChangeAt Go.RowKit
def Am:Prop:=∀vs:List V,KW (okV P 8) [24,26,3,3,27,5] vs=true→∃h,Cl 3 vs []=some (.bool true,h)
set_option maxRecDepth 100000 in
theorem lifted (am:Am) (os:Os) (started:os.Started) (H:Type) (enc:TypeId×Value→H):
 ReturnsInHanded {} Tryz.checked os 3 .any (fun w args=>(Rows.workerLoadsSpec.pre enc Tryz.prog Tryz.f3 [] false w args∧laidMetH Tryz.prog laid2 w)∧sizedMet enc Tryz.prog Tryz.f3 (OpenSpec.ofChange Rows.workerLoadsSpec) false w args)
  (Rows.workerLoadsSpec.post enc Tryz.prog Tryz.f3 false true false false):=by
 refine returnsInHanded_of_change_and (C:=Tryz.checked) (X:=fun w _=>laidMetH Tryz.prog laid2 w) (fun _ _ _ hh h=>h.of_heap hh) AKD started (by kernel_rfl) Tryz.func3
  (ChangeSpec.witness_shaped (enc:=enc) (C:=Tryz.checked) (os:=os) (X:=fun w _=>laidMetH Tryz.prog laid2 w) false (World.doorLaid Tryz.prog 400 os) #[.agg #[.int .i64 0,.slice none 0 0],.agg #[.string ByteArray.empty,.int .i64 0,.int .i64 0],.int .i64 0,.int .i64 0,.slice none 0 0,.int .u8 0] 8 rfl (World.shaped_of_RefB (by kernel_rfl) (by kernel_rfl)) (by kernel_rfl) (by kernel_rfl) (by kernel_rfl) (door_met os _)) ?_
 intro W base args ds gs before hval0 hW hcnd hsz0 hL _
 have hval:∀(j:Nat) t v,Tryz.f3.params[j]?=some t→args[j]?=some v→Value.okWide Tryz.prog W .any base t v:=hval0
 have hW':=hW
 obtain⟨p,q,hA0,hV,rfl,hfz,hnd⟩:=hW
 have hA:DataW.TrodAll enc Tryz.prog W 0 (fun _=>true) true Tryz.f3.params.toList args.toList ds p:=hA0
 rw[Tryz.params3]at hA hval
 obtain⟨rfl,rfl⟩:=trodVars_none hV
 obtain⟨us,u1,u2,u3,u4⟩:=Zu lay (by kernel_rfl) hA fun j t v x y=>hval j t v (by simpa using x) (by simpa using y)
 obtain⟨h,hr⟩:=am us u1
 have hlt:∀x∈p,x.block<W.heap.size:=fun x hx=>hW'.lt x (by simpa using hx)
 have hA2:=hA
 clear hval0 hsz0 hA0
 refine(AKE hL hr (by simpa using u2) (fun i v c x y=>u3 i v c x (by simpa using y)) u4).mono fun e W' ⟨he,bel⟩=> ?_
 subst he
 obtain⟨v0,vs0,d0,ds0,p0,q0,ha0,rfl,rfl,h0,r0⟩:=trodAll_cons hA2
 obtain⟨v1,vs1,d1,ds1,p1,q1,ha1,rfl,rfl,h1,r1⟩:=trodAll_cons r0
 obtain⟨v2,vs2,d2,ds2,p2,q2,ha2,rfl,rfl,h2,r2⟩:=trodAll_cons r1
 obtain⟨v3,vs3,d3,ds3,p3,q3,ha3,rfl,rfl,h3,r3⟩:=trodAll_cons r2
 obtain⟨v4,vs4,d4,ds4,p4,q4,ha4,rfl,rfl,h4,r4⟩:=trodAll_cons r3
 obtain⟨v5,vs5,d5,ds5,p5,q5,ha5,rfl,rfl,h5,r5⟩:=trodAll_cons r4
 obtain⟨rfl,rfl,rfl⟩:=trodAll_nil r5
 exact⟨_,rfl,_,_,_,[],_,[],hW',trodAll_mk1 (shut_bool Tryz.underlying4 _),VJ AKC bel (by kernel_rfl) hA hlt,rfl,bel.frame _,fun h=>by cases h⟩
theorem over (am:Am):Rows.workerLoadsRow.holds Tryz.pinned (OpenSpec.ofChange Rows.workerLoadsSpec):=
 OpenClaim.holds_of_wide 3 Tryz.f3 rfl rfl rfl rfl rfl rfl rfl ⟨rfl,rfl,rfl,rfl,rfl⟩ rfl rfl rfl rfl rfl (by kernel_rfl) Tryz.func3 (by kernel_rfl)
  (of_decide_eq_true (by kernel_rfl)) (by unfold Func.isWrapper;first|(rw[if_pos (by decide+kernel)];kernel_rfl)|(rw[if_neg (by decide+kernel)];exact⟨rfl,rfl⟩))
  (fun os started H enc _=>lifted am os started H enc)
theorem ARO:∀(j:Nat) (t:TypeId),([24,26,3,3,27,5]:List TypeId)[j]?=some t→Tryz.prog.wantsStandIn t=false:=by
 intro j t ht
 have h:([24,26,3,3,27,5]:List TypeId).all (fun t=> !Tryz.prog.wantsStandIn t)=true:=by kernel_rfl
 have:=List.all_eq_true.1 h t (List.mem_of_getElem? ht)
 simpa using this
theorem card (am:Am):Rows.WorkerLoadsCardSaid:=
 Claim7.holds_tied_plain_at .later [] [.data,.data] true (true, "dc020534288fd3cc6fb7314740b3cc0939d1ffe87eaff0c0bd8e3a15d9389c2f") false
  (over am) (fun _ h=>by cases h) (by kernel_rfl) (fun _ h=>by cases h) workerLoads_row_tie rfl ⟨rfl,rfl⟩ (by kernel_rfl) rfl
  (fun f fn hf hfn=>by
   obtain rfl:f=3:=Option.some.inj ((show Tryz.prog.funcNamed "modillion/modillionlaw13.WorkerLoads"=some 3 by kernel_rfl).symm.trans hf) |>.symm
   obtain rfl:fn=Tryz.f3:=(Option.some.inj (Tryz.func3.symm.trans hfn)).symm
   exact⟨by kernel_rfl,fun j t ht=>by
    rw[Tryz.params3]at ht
    exact ARO j t (by simpa using ht)⟩)
  (by kernel_rfl)
end RowWorkerLoads
end
end Go.Proofs.YtphoocnlpnnkdaaGreatDoor
