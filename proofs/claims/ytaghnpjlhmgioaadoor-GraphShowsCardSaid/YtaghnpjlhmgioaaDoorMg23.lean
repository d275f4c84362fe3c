/-
  Part of the proof of a statement about the given program: an abstract machine over its code, the simulation, its functions' equations, what they compute.
-/
import Derived.Test.YtaghnpjlhmgioaaDoorMg22
section
set_option linter.unusedVariables false
set_option linter.unusedSimpArgs false
namespace Go.Proofs.YtaghnpjlhmgioaaDoor
namespace AM
open Go
section
variable {P : Program} {A : Ann} {O : Orc} {g g' : G} {w w' : World}
def LoopWp (P : Program) (b : Code) (Q : Exit → Act → World → Prop) (a : Act) (w : World) : Prop :=
 ∀ (fr : Frame) (k : List Item) (cs : List Frame), ∃ e a' w', Q e a' w' ∧ Arrives P (lone (fr.at a (.code b :: .inLoop b :: k)) cs w) fr k cs e a' w'
theorem LoopWp.wp {b : Code} {Q : Exit → Act → World → Prop} {a : Act} {w : World} (h : LoopWp P b Q a w) : (Code.loop b).wp P Q a w := by
 intro fr k cs
 obtain ⟨e, a', w', hq, harr⟩ := h fr k cs
 exact ⟨e, a', w', hq, .of_steps (.one step_loop) harr⟩
theorem LoopWp.step {b : Code} {Q : Exit → Act → World → Prop} {a : Act} {w : World} (h : b.wp P (Exit.then (LoopWp P b Q) Q) a w) : LoopWp P b Q a w := by
 intro fr k cs
 obtain ⟨e, a₁, w₁, hq, harr⟩ := h fr (.inLoop b :: k) cs
 cases e with
 | normal =>
   obtain ⟨e₂, a₂, w₂, hq₂, harr₂⟩ := hq fr k cs
   exact ⟨e₂, a₂, w₂, hq₂, .of_steps (Steps.trans harr (.one step_inLoop)) harr₂⟩
 | exit id => exact ⟨_, a₁, w₁, hq, .pass (x := .inLoop b) rfl (fun _ _ => .inl (by simp)) harr⟩
 | goto l => exact ⟨_, a₁, w₁, hq, .pass (x := .inLoop b) rfl (fun _ _ => .inl (by simp)) harr⟩
 | ret => exact ⟨_, a₁, w₁, hq, .pass (x := .inLoop b) rfl (fun _ _ => .inl (by simp)) harr⟩
 | panic ch => exact ⟨_, a₁, w₁, hq, .pass (x := .inLoop b) rfl (fun _ _ => .inl (by simp)) harr⟩
 | outgrown => exact ⟨_, a₁, w₁, hq, .pass (x := .inLoop b) rfl (fun _ _ => .inl (by simp)) harr⟩
def chkC (P : Program) (A : Ann) (S : List Nat) (n : Nat) (fn : FuncId) : Code → Bool
 | .region id os d => ((List.range os.size).all fun i => match os[i]? with
  | some o => chkOp P A S n fn id i o
  | none => false) && (!d || regChk P A fn id os)
 | .seq a b => chkC P A S n fn a && chkC P A S n fn b
 | .cond _ a b => chkC P A S n fn a && chkC P A S n fn b
 | .block _ b => chkC P A S n fn b
 | .loop b => chkC P A S n fn b
 | _ => true
 termination_by structural c => c
def exOf : Ex → Exit
 | .normal => .normal
 | .exit id => .exit id
 | .ret => .ret
def LoopOk (P : Program) (A : Ann) (fn : FuncId) (b : Code) (st : St) (r : Ex × St) : Prop :=
 ∀ (S : List Nat) (n : Nat) (a : Act) (g : G) (w : World), chkC P A S n fn b = true → a.tmps.size = n → SR P A g w st a.tmps → NO S st →
   ∀ Q : Exit → Act → World → Prop, (∀ a' w', Aft P A S g w a r.2 a' w' → Q (exOf r.1) a' w') → LoopWp P b Q a w
def LoopsOk (P : Program) (A : Ann) (O : Orc) : Prop := ∀ fn blk b st r, O.loop fn blk b st = some r → LoopOk P A fn b st r
theorem Old.drew (w : World) (g : G) : Old g w g { w with drawn := w.drawn + 1 } :=
 ⟨rfl, rfl, rfl, Nat.le_refl _, fun b hb => ⟨rfl, rfl, rfl, rfl⟩, ⟨[], by simp⟩, ⟨[], by simp⟩⟩
theorem exec_sim (L : Lay P) (FO : FnOk P A) (HO : CallsOk P A O) (HL : LoopsOk P A O) (hm : P.follows .mixedOrders = true) {R : Type} {Sl : List Nat} {n : Nat} {fn : FuncId} {r : R} : ∀ (c : Code) (blk : Nat) (st : St) (a : Act) (g : G) (w : World) (k : Ex → St → Option R),
 chkC P A Sl n fn c = true → a.tmps.size = n → SR P A g w st a.tmps → NO Sl st → exec P A O fn blk c st k = some r →
 ∀ Q : Exit → Act → World → Prop, (∀ e st' a' w', k e st' = some r → Aft P A Sl g w a st' a' w' → Q (exOf e) a' w') → c.wp P Q a w := by
 intro c
 induction c with
 | skip => intro blk st a g w k hc hn S N h Q hQ; exact wp_skip (hQ .normal st a w h ⟨⟨g, Ext.refl g w, S⟩, N, rfl, rfl⟩)
 | region id os d =>
   intro blk st a g w k hc hn S N h Q hQ
   simp only [exec] at h
   split at h
   · rename_i hap
     simp only [chkC, Bool.and_eq_true, List.all_eq_true, List.mem_range, Bool.or_eq_true, Bool.not_eq_true'] at hc
     obtain ⟨hc1, hc2⟩ := hc
     have hco : ∀ i o, os[i]? = some o → chkOp P A Sl n fn id i o = true := by
      intro i o ho
      have := hc1 i (Array.getElem?_eq_some_iff.1 ho).1
      rw [ho] at this; exact this
     have S1 : SR P A g w { st with s := AM.drop (A.pre fn id) st.s } a.tmps := S.less (drop_less st _) rfl
     have N1 : NO Sl { st with s := AM.drop (A.pre fn id) st.s } := N.less (drop_less st _)
     have back : ∀ {g : G} {w : World} (st' : St) (a' : Act) (w' : World), Aft P A Sl g w a st' a' w' → Aft P A Sl g w a { st' with s := AM.drop (A.kills fn id) st'.s } a' w' := by
      rintro g w st' a' w' ⟨⟨g', E, S'⟩, N', h1, h2⟩
      exact ⟨⟨g', E, S'.less (drop_less st' _) rfl⟩, N'.less (drop_less st' _), h1, h2⟩
     cases d with
     | false => exact wp_region (ops_sim L FO HO hco _ _ _ a g w hn S1 N1 h fun st' a' w' hk A' => hQ .normal _ a' w' hk (back st' a' w' A'))
     | true =>
       have hreg : regChk P A fn id os = true := by simpa using hc2
       refine wp_region_draw fun t => ?_
       rw [hm]
       have O1 := Old.drew w g
       have S2 : SR P A g { w with drawn := w.drawn + 1 } { st with s := AM.drop (A.pre fn id) st.s } a.tmps := S1.old O1 ⟨S1.wg.fresh, S1.wg.box, S1.wg.le⟩ rfl rfl
       exact ops_sim L FO HO hco _ _ _ a g _ hn S2 N1 (schedule_ops hreg hap h t) fun st' a' w' hk A' => hQ .normal _ a' w' hk (back st' a' w' (Aft.trans ⟨g, O1.ext, A'⟩ rfl rfl))
   · cases h
 | seq x y ihx ihy =>
   intro blk st a g w k hc hn S N h Q hQ
   simp only [chkC, Bool.and_eq_true] at hc
   simp only [exec] at h
   refine wp_seq (ihx blk st a g w _ hc.1 hn S N h _ fun e st' a' w' hk A' => ?_)
   obtain ⟨⟨g', E, S'⟩, N', h1, h2⟩ := A'
   cases e with
   | normal => exact ihy blk st' a' g' w' k hc.2 (h1.trans hn) S' N' hk Q fun e st2 a2 w2 hk2 A2 => hQ e st2 a2 w2 hk2 (Aft.trans ⟨g', E, A2⟩ h1 h2)
   | exit j => exact hQ (.exit j) st' a' w' hk ⟨⟨g', E, S'⟩, N', h1, h2⟩
   | ret => exact hQ .ret st' a' w' hk ⟨⟨g', E, S'⟩, N', h1, h2⟩
 | cond x p q ihp ihq =>
   intro blk st a g w k hc hn S N h Q hQ
   simp only [chkC, Bool.and_eq_true] at hc
   simp only [exec] at h
   have hV := S.ev 0 x
   rcases ite_some h with ⟨hb, h⟩ | ⟨hb, h⟩
   · rw [hb] at hV
     exact wp_cond_true hV.bool' (ihp blk st a g w k hc.1 hn S N h Q hQ)
   · rw [hb] at hV
     exact wp_cond_false hV.bool' (ihq blk st a g w k hc.2 hn S N h Q hQ)
 | block id b ih =>
   intro blk st a g w k hc hn S N h Q hQ
   simp only [chkC] at hc
   simp only [exec] at h
   refine wp_block (ih id st a g w _ hc hn S N h _ fun e st' a' w' hk A' => ?_)
   cases e with
   | normal => exact hQ .normal st' a' w' hk A'
   | exit j =>
     simp only [blockK] at hk
     show (if j = id then Q .normal a' w' else Q (.exit j) a' w')
     split at hk
     · rename_i hj; rw [if_pos hj]; exact hQ .normal st' a' w' hk A'
     · rename_i hj; rw [if_neg hj]; exact hQ (.exit j) st' a' w' hk A'
   | ret => exact hQ .ret st' a' w' hk A'
 | loop b ih =>
   intro blk st a g w k hc hn S N h Q hQ
   simp only [chkC] at hc
   simp only [exec, lp] at h
   obtain ⟨rr, hr, hk⟩ := Option.bind_eq_some_iff.1 h
   have hless : ∀ i, ({ st with s := mask (A.keep fn blk) st.s } : St).get i = st.get i ∨ ({ st with s := mask (A.keep fn blk) st.s } : St).get i = .undef := by
    intro i
    unfold mask
    split
    · exact .inl rfl
    · exact hold_less st st.h _ i
   exact (HL _ _ _ _ _ hr Sl n a g w hc hn (S.less hless rfl) (N.less hless) Q fun a' w' A' => hQ rr.1 rr.2 a' w' hk A').wp
 | exit id => intro blk st a g w k hc hn S N h Q hQ; exact wp_exit (hQ (.exit id) st a w h ⟨⟨g, Ext.refl g w, S⟩, N, rfl, rfl⟩)
 | ret => intro blk st a g w k hc hn S N h Q hQ; exact wp_ret (hQ .ret st a w h ⟨⟨g, Ext.refl g w, S⟩, N, rfl, rfl⟩)
 | _ => intro blk st a g w k hc hn S N h; simp [exec] at h
theorem Aft.refl {Sl : List Nat} {st : St} {a : Act} (S : SR P A g w st a.tmps) (N : NO Sl st) : Aft P A Sl g w a st a w := ⟨⟨g, Ext.refl g w, S⟩, N, rfl, rfl⟩
theorem loop_sim (L : Lay P) (FO : FnOk P A) (HO : CallsOk P A O) (HL : LoopsOk P A O) (hm : P.follows .mixedOrders = true) {fn : FuncId} {blk : Nat} {b : Code} {st : St} {r : Ex × St} (h : round P A O fn blk b st = some r) : LoopOk P A fn b st r := by
 intro Sl n a g w hc hn S N Q hQ
 refine LoopWp.step ?_
 unfold round at h
 refine exec_sim L FO HO HL hm b blk st a g w _ hc hn S N h _ fun e st1 a1 w1 hk A1 => ?_
 obtain ⟨⟨g1, E1, S1⟩, N1, h1, h2⟩ := A1
 have next : ∀ {st2 : St}, (∃ g2, Ext g w g2 w1 ∧ SR P A g2 w1 st2 a1.tmps) → NO Sl st2 → lp O fn blk b (fun e st => some (e, st)) st2 = some r → LoopWp P b Q a1 w1 := by
  rintro st2 ⟨g2, E2, S2⟩ N2 hlp
  unfold lp at hlp
  obtain ⟨rr, hr, he⟩ := Option.bind_eq_some_iff.1 hlp
  obtain rfl := Option.some.inj he
  exact HL _ _ _ _ _ hr Sl n a1 g2 w1 hc (h1.trans hn) S2 N2 Q fun a' w' A' => hQ a' w' (Aft.trans ⟨g2, E2, A'⟩ h1 h2)
 cases e with
 | normal =>
   simp only [loopK, cut] at hk
   show LoopWp P b Q a1 w1
   split at hk
   · exact next ⟨g1, E1, S1⟩ N1 hk
   · rename_i l hkeep
     split at hk
     · rename_i hu
       exact next ⟨g1.trunc st.h.length w1, E1.trunc S.box S1.box S1.wg, S1.trunc FO hu⟩ (N1.less (hold_less st1 _ l)) hk
     · cases hk
   · rename_i l hkeep
     exact next ⟨g1, E1, S1.less (hold_less st1 _ l) rfl⟩ (N1.less (hold_less st1 _ l)) hk
 | exit j =>
   obtain rfl := Option.some.inj hk
   exact hQ a1 w1 ⟨⟨g1, E1, S1⟩, N1, h1, h2⟩
 | ret =>
   obtain rfl := Option.some.inj hk
   exact hQ a1 w1 ⟨⟨g1, E1, S1⟩, N1, h1, h2⟩
theorem look_enum : ∀ (vs : List V) (k i : Nat), look i (enum k vs) = if k ≤ i then (vs[i - k]?).getD .undef else .undef
 | [], k, i => by simp [enum, look]
 | v :: vs, k, i => by
   simp only [enum, look]
   cases h : Nat.beq k i
   · have hne := Nat.ne_of_beq_eq_false h
     simp only [cond_false]
     rw [look_enum vs (k + 1) i]
     by_cases h1 : k + 1 ≤ i
     · have e : i - k = (i - (k + 1)) + 1 := by omega
       rw [if_pos h1, if_pos (by omega), e, List.getElem?_cons_succ]
     · rw [if_neg h1, if_neg (by omega)]
   · have := Nat.eq_of_beq_eq_true h
     subst this
     simp
theorem noOwnL_get {i : Nat} {vs : List V} {v : V} (h : noOwnL vs = true) (hv : vs[i]? = some v) : v.noOwn = true := by
 induction vs generalizing i with
 | nil => simp at hv
 | cons x vs ih =>
   simp only [noOwnL, Bool.and_eq_true] at h
   cases i with
   | zero => simp at hv; subst hv; exact h.1
   | succ i => exact ih h.2 (by simpa using hv)
theorem pairD_size {l l' : List Oper} {D : PairD} (h : pairD l l' = some D) : l.length = 5 ∧ l'.length = 5 := by
 unfold pairD at h
 split at h
 · exact ⟨rfl, rfl⟩
 · cases h
theorem chain_0 {R : Type} {fn : FuncId} {c : Code} {st : St} {k : Ex → St → Option R} {r : R} (h : chain P A O fn 0 c st k = some r) :
 ∃ i5 os5 i6 os6 c', c = .seq (.region i5 os5 false) (.seq (.region i6 os6 false) c') ∧ pairStep P A O fn i5 i6 os5 os6 st (fun st => exec P A O fn 0 c' st k) = some r := by
 unfold chain at h
 split at h
 · exact ⟨_, _, _, _, _, rfl, h⟩
 · rename_i hh; cases hh
 · cases h
theorem chain_s {R : Type} {fn : FuncId} {m : Nat} {c : Code} {st : St} {k : Ex → St → Option R} {r : R} (h : chain P A O fn (m + 1) c st k = some r) :
 ∃ x y, c = .seq x y ∧ exec P A O fn 0 x st (seqK (chain P A O fn m y) k) = some r := by
 unfold chain at h
 split at h
 · rename_i hh; cases hh
 · rename_i hh; cases hh; exact ⟨_, _, rfl, h⟩
 · cases h
theorem exec_ends {R : Type} {f : FuncId} {c : Code} {blk : Nat} {st : St} {k : Ex → St → Option R} {r : R} (hx : exec P A O f blk c st k = some r) : ∃ e st', k e st' = some r := by
 have hb2 := exec_bind (P := P) (A := A) (O := O) f (fun (p : Ex × St) => k p.1 p.2) c blk st (fun e st => some (e, st))
 simp only [Option.bind_some] at hb2
 rw [hx] at hb2
 obtain ⟨p, _, hp⟩ := Option.bind_eq_some_iff.1 hb2
 exact ⟨_, _, hp⟩
theorem ops_ends {R : Type} {f : FuncId} {rid : Nat} {os : Array Oper} {is sk : List Nat} {st : St} {k : St → Option R} {r : R} (hx : ops P A O f rid os sk is st k = some r) : ∃ st', k st' = some r := by
 have hb2 := ops_bind (P := P) (A := A) (O := O) f rid os k is sk st some
 simp only [Option.bind_some] at hb2
 rw [hx] at hb2
 obtain ⟨p, _, hp⟩ := Option.bind_eq_some_iff.1 hb2
 exact ⟨_, hp⟩
theorem pairO_ends {R : Type} {D : PairD} {st : St} {k : St → Option R} {r : R} (h : pairO P A O D st k = some r) : ∃ st', k st' = some r := by
 unfold pairO at h
 split at h
 · obtain ⟨_, _, h⟩ := Option.bind_eq_some_iff.1 h
   split at h
   · obtain ⟨_, _, h⟩ := Option.bind_eq_some_iff.1 h
     obtain ⟨_, _, h⟩ := Option.bind_eq_some_iff.1 h
     split at h
     · obtain ⟨_, _, h⟩ := Option.bind_eq_some_iff.1 h
       exact ⟨_, h⟩
     · cases h
   · cases h
 · cases h
theorem chain_ends {R : Type} {f : FuncId} {r : R} : ∀ (m : Nat) {c : Code} {st : St} {k : Ex → St → Option R}, chain P A O f m c st k = some r → ∃ e st', k e st' = some r := by
 intro m
 induction m with
 | zero =>
   intro c st k h
   obtain ⟨_, _, _, _, _, _, h⟩ := chain_0 h
   unfold pairStep at h
   obtain ⟨_, _, h⟩ := Option.bind_eq_some_iff.1 h
   obtain ⟨_, h⟩ := ops_ends h
   obtain ⟨_, h⟩ := pairO_ends h
   exact exec_ends h
 | succ m ih =>
   intro c st k h
   obtain ⟨_, _, _, h⟩ := chain_s h
   obtain ⟨e, _, h⟩ := exec_ends h
   cases e with
   | normal => exact ih h
   | exit j => exact ⟨_, _, h⟩
   | ret => exact ⟨_, _, h⟩
theorem execB_ends {R : Type} {f : FuncId} {c : Code} {st : St} {k : Ex → St → Option R} {r : R} (h : execB P A O f c st k = some r) : ∃ e st', k e st' = some r := by
 unfold execB at h
 split at h
 · exact exec_ends h
 · exact chain_ends _ h
theorem chain_sim (L : Lay P) (FO : FnOk P A) (HO : CallsOk P A O) (HL : LoopsOk P A O) (hm : P.follows .mixedOrders = true) {R : Type} {Sl : List Nat} {n : Nat} {fn : FuncId} {r : R} : ∀ (m : Nat) (c : Code) (st : St) (a : Act) (g : G) (w : World) (k : Ex → St → Option R),
 chkC P A Sl n fn c = true → a.tmps.size = n → SR P A g w st a.tmps → NO Sl st → chain P A O fn m c st k = some r →
 ∀ Q : Exit → Act → World → Prop, (∀ e st' a' w', k e st' = some r → Aft P A Sl g w a st' a' w' → Q (exOf e) a' w') → c.wp P Q a w := by
 intro m
 induction m with
 | zero =>
   intro c st a g w k hc hn S N h Q hQ
   obtain ⟨i5, os5, i6, os6, c', hc0, hp0⟩ := chain_0 h
   · clear h
     have h := hp0
     clear hp0
     subst hc0
     unfold pairStep at h
     obtain ⟨D, hD, h⟩ := Option.bind_eq_some_iff.1 h
     obtain ⟨z5, z6⟩ := pairD_size hD
     rw [Array.length_toList] at z5 z6
     simp only [chkC, Bool.and_eq_true, List.all_eq_true, List.mem_range, Bool.or_eq_true, Bool.not_eq_true'] at hc
     obtain ⟨⟨hc5, _⟩, ⟨hc6, _⟩, hc'⟩ := hc
     have hco5 : ∀ i o, os5[i]? = some o → chkOp P A Sl n fn i5 i o = true := by
      intro i o ho
      have := hc5 i (Array.getElem?_eq_some_iff.1 ho).1
      rw [ho] at this; exact this
     have hco6 : ∀ i o, os6[i]? = some o → chkOp P A Sl n fn i6 i o = true := by
      intro i o ho
      have := hc6 i (Array.getElem?_eq_some_iff.1 ho).1
      rw [ho] at this; exact this
     have S1 : SR P A g w { st with s := AM.drop (A.pre fn i5) st.s } a.tmps := S.less (drop_less st _) rfl
     have N1 : NO Sl { st with s := AM.drop (A.pre fn i5) st.s } := N.less (drop_less st _)
     refine wp_seq (wp_region ?_)
     rw [z5, show List.range 5 = [0, 1] ++ [2, 3, 4] from rfl]
     refine ops_simR L FO HO hco5 _ _ _ a g w hn S1 N1 h fun st1 a1 w1 hk A1 => ?_
     obtain ⟨⟨g1, E1, S1'⟩, N1', hs1, hdf1⟩ := A1
     refine pairO_sim L FO HO hD hco5 hco6 (hs1.trans hn) S1' N1' hk (Q := Exit.then (c'.wp P Q) Q) (fun a' w' hq => ?_) (fun st' a' w' hk' A' => ?_)
     · show (Code.seq (.region i6 os6 false) c').wp P Q a' w'
       refine wp_seq (wp_region ?_)
       rw [z6]; exact hq
     · obtain ⟨⟨g2, E2, S2⟩, N2, hs2, hdf2⟩ := A'
       show c'.wp P Q a' w'
       exact exec_sim L FO HO HL hm c' 0 _ a' g2 w' k hc' (hs2.trans (hs1.trans hn)) (S2.less (drop_less st' _) rfl) (N2.less (drop_less st' _)) hk' Q fun e st2 a2 w2 hk2 A2 =>
        hQ e st2 a2 w2 hk2 (Aft.trans ⟨g1, E1, Aft.trans ⟨g2, E2, A2⟩ hs2 hdf2⟩ hs1 hdf1)
 | succ m ih =>
   intro c st a g w k hc hn S N h Q hQ
   obtain ⟨x, y, hc0, hp0⟩ := chain_s h
   · clear h
     have h := hp0
     clear hp0
     subst hc0
     simp only [chkC, Bool.and_eq_true] at hc
     refine wp_seq (exec_sim L FO HO HL hm x 0 st a g w _ hc.1 hn S N h _ fun e st' a' w' hk A' => ?_)
     obtain ⟨⟨g', E, S'⟩, N', h1, h2⟩ := A'
     cases e with
     | normal => exact ih y st' a' g' w' k hc.2 (h1.trans hn) S' N' hk Q fun e st2 a2 w2 hk2 A2 => hQ e st2 a2 w2 hk2 (Aft.trans ⟨g', E, A2⟩ h1 h2)
     | exit j => exact hQ (.exit j) st' a' w' hk ⟨⟨g', E, S'⟩, N', h1, h2⟩
     | ret => exact hQ .ret st' a' w' hk ⟨⟨g', E, S'⟩, N', h1, h2⟩
theorem execB_sim (L : Lay P) (FO : FnOk P A) (HO : CallsOk P A O) (HL : LoopsOk P A O) (hm : P.follows .mixedOrders = true) {R : Type} {Sl : List Nat} {n : Nat} {fn : FuncId} {r : R} (c : Code) (st : St) (a : Act) (g : G) (w : World) (k : Ex → St → Option R)
 (hc : chkC P A Sl n fn c = true) (hn : a.tmps.size = n) (S : SR P A g w st a.tmps) (N : NO Sl st) (h : execB P A O fn c st k = some r)
 (Q : Exit → Act → World → Prop) (hQ : ∀ e st' a' w', k e st' = some r → Aft P A Sl g w a st' a' w' → Q (exOf e) a' w') : c.wp P Q a w := by
 unfold execB at h
 split at h
 · exact exec_sim L FO HO HL hm c 0 st a g w k hc hn S N h Q hQ
 · exact chain_sim L FO HO HL hm _ c st a g w k hc hn S N h Q hQ
theorem call_ok (L : Lay P) (FO : FnOk P A) (HO : CallsOk P A O) (HL : LoopsOk P A O) (hm : P.follows .mixedOrders = true) (S : FuncId → List Nat) (hS : ∀ f fn c, A.bad f = false → P.funcs[f]? = some fn → fn.body = some c → chkC P A (S f) fn.ntmps f c = true)
 {f : FuncId} {vs h : List V} {r : V × List V} (hb : body P A O f vs h = some r) : CallOk P A f vs h r ∧ (A.pure f = true → r.1.clean = true ∨ ∃ e xs, r.1 = .lst e .own xs ∧ cleanL xs = true) ∧ (∃ fn c, P.funcs[f]? = some fn ∧ fn.body = some c) ∧ (A.ret f ≠ .own → r.1.noOwn = true) := by
 unfold body at hb
 have hbd : A.bad f = false := by
  cases hx : A.bad f with
  | false => rfl
  | true => rw [if_pos hx] at hb; cases hb
 rw [if_neg (by rw [hbd]; exact Bool.false_ne_true)] at hb
 split at hb
 · cases hb
 · rename_i fn hfn
   split at hb
   · cases hb
   · rename_i c hc
     split at hb
     · rename_i hle
       have fine : ∀ {e : Ex} {st' : St}, leaveK P A f fn h.length e st' = some r → (e = .normal ∨ e = .ret) ∧ resK P st' fn.results.toList [] (fin A f h.length st'.h) = some r := by
        intro e st' he
        cases e with
        | normal => exact ⟨.inl rfl, he⟩
        | exit j => cases he
        | ret => exact ⟨.inr rfl, he⟩
       have main : ∀ (g : G) (w : World) (args : Array Value) (l : Nat ⊕ (Nat × Nat)), BX P g w h → WG g w → GlobOk P A g w → vs.length = args.size →
        (∀ (i : Nat) (v : V) (c : Value), vs[i]? = some v → args[i]? = some c → VR P g w v c) → noOwnL vs = true →
        Calls P f args w fun e w' => ∃ c g', e = .returned c ∧ Ext g w g' w' ∧ VR P g' w' r.1 c ∧ (∀ e xs, r.1 = .lst e .own xs → Own P g' w' e xs.length c l) ∧ ((∃ e xs, r.1 = .lst e .own xs) ∨ r.1.noOwn = true) ∧
         BX P g' w' r.2 ∧ WG g' w' ∧ GlobOk P A g' w' := by
        intro g w args l B W Gl hlen hv hno
        refine calls_of_wp hfn hc ?_
        let tm : Array Value := args ++ Array.replicate (fn.ntmps - args.size) undef
        have hsz : tm.size = fn.ntmps := by simp only [tm, Array.size_append, Array.size_replicate]; omega
        have hget : ∀ i, (⟨enum 0 vs, h⟩ : St).get i = (vs[i]?).getD .undef := by
         intro i
         simp only [St.get]
         rw [look_enum]; simp
        have S0 : SR P A g w ⟨enum 0 vs, h⟩ tm := by
         refine ⟨fun i => ?_, fun i e xs hi => ?_, fun i => .inr ?_, B, W, Gl⟩
         · rw [hget]
           cases hvi : vs[i]? with
           | none => exact .dead _
           | some v =>
             have hlt := lt_of_get hvi
             have hia : i < args.size := by rw [← hlen]; exact hlt
             have e1 : tm.getD i undef = args[i] := by
              rw [Array.getD_eq_getD_getElem?]
              simp only [tm]
              rw [Array.getElem?_append_left hia, Array.getElem?_eq_getElem hia]; rfl
             rw [e1]
             exact hv i v _ hvi (Array.getElem?_eq_getElem hia)
         · rw [hget] at hi
           cases hvi : vs[i]? with
           | none => rw [hvi] at hi; cases hi
           | some v =>
             rw [hvi] at hi
             have := noOwnL_get hno hvi
             simp only [Option.getD_some] at hi
             rw [hi] at this; simp [V.noOwn] at this
         · rw [hget]
           cases hvi : vs[i]? with
           | none => rfl
           | some v => exact noOwnL_get hno hvi
        have N0 : NO (S f) ⟨enum 0 vs, h⟩ := by
         intro i e xs hi
         rcases S0.nown i with ⟨e', xs', hh⟩ | hh
         · have := S0.own i e' xs' hh
           rw [hget] at hh
           cases hvi : vs[i]? with
           | none => rw [hvi] at hh; cases hh
           | some v =>
             rw [hvi] at hh
             have := noOwnL_get hno hvi
             simp only [Option.getD_some] at hh
             rw [hh] at this; simp [V.noOwn] at this
         · rw [hi] at hh; simp [V.noOwn] at hh
        refine execB_sim L FO HO HL hm c _ { tmps := tm, defers := [] } g w _ (hS f fn c hbd hfn hc) hsz S0 N0 hb _ fun e st' a' w' hk A' => ?_
        obtain ⟨⟨g', E, S'⟩, N', h1, h2⟩ := A'
        obtain ⟨he, hres⟩ := fine hk
        obtain ⟨cv, v, hrun, hfin, hRR, hown⟩ := results_sim L S' hres
        obtain ⟨g2, E2, q1, q2, q3, q4, q5, q6, _⟩ := fin_sim L FO l B W E S' hRR hown hfin
        have hpost : a'.defers = [] ∧ ∃ v, (results fn a'.tmps).run P w' = .ok v w' ∧ ∃ c g', Ending.returned v = .returned c ∧ Ext g w g' w' ∧ VR P g' w' r.1 c ∧ (∀ e xs, r.1 = .lst e .own xs → Own P g' w' e xs.length c l) ∧ ((∃ e xs, r.1 = .lst e .own xs) ∨ r.1.noOwn = true) ∧
         BX P g' w' r.2 ∧ WG g' w' ∧ GlobOk P A g' w' := ⟨h2, cv, hrun, cv, g2, rfl, E2, q1, q2, q3, q4, q5, q6⟩
        rcases he with rfl | rfl
        · exact hpost
        · exact hpost
       refine ⟨fun g w args l B W Gl _ hlen hv hno => main g w args l B W Gl hlen hv hno, fun hp => ?_, ⟨fn, c, hfn, hc⟩, fun hno => ?_⟩
       all_goals
        obtain ⟨e, st', hk⟩ := execB_ends hb
        obtain ⟨_, hres⟩ := fine hk
        obtain ⟨us, _, hh⟩ := resK_spec _ _ hres
        have hf : ∃ v, fin A f h.length st'.h v = some r := by
         rcases hh with ⟨v, _, hv⟩ | ⟨_, _, hv⟩
         · exact ⟨v, hv⟩
         · exact ⟨_, hv⟩
        obtain ⟨v, hf⟩ := hf
        unfold fin at hf
       · have hret := FO.pure f hp
         split at hf
         · unfold finT at hf
           dsimp only at hf
           split at hf
           · rename_i hok
             simp only [Bool.and_eq_true] at hok
             obtain rfl := Option.some.inj hf
             exact .inl hok.1
           · cases hf
         · unfold finO at hf
           split at hf
           · obtain rfl := Option.some.inj hf; exact .inl rfl
           · obtain rfl := Option.some.inj hf; exact .inl rfl
           · split at hf
             · split at hf
               · split at hf
                 · obtain rfl := Option.some.inj hf; exact .inl rfl
                 · cases hf
               · cases hf
             · cases hf
           · cases hf
         · rename_i hk; exact (hret hk).elim
         · unfold finN at hf
           split at hf
           · obtain rfl := Option.some.inj hf; exact .inl rfl
           · obtain rfl := Option.some.inj hf; exact .inl rfl
           · obtain rfl := Option.some.inj hf; exact .inl rfl
           · cases hf
       · split at hf
         · unfold finT at hf
           dsimp only at hf
           split at hf
           · obtain rfl := Option.some.inj hf
             exact noOwn_norm _
           · cases hf
         · rename_i hr; exact (hno hr).elim
         · unfold finK at hf
           obtain rfl := Option.some.inj hf
           exact noOwn_norm _
         · unfold finN at hf
           split at hf
           · obtain rfl := Option.some.inj hf; rfl
           · obtain rfl := Option.some.inj hf; rfl
           · obtain rfl := Option.some.inj hf; rfl
           · cases hf
     · cases hb
theorem sim_all (L : Lay P) (FO : FnOk P A) (hm : P.follows .mixedOrders = true) (S : FuncId → List Nat) (hS : ∀ f fn c, A.bad f = false → P.funcs[f]? = some fn → fn.body = some c → chkC P A (S f) fn.ntmps f c = true) : ∀ k, CallsOk P A (orcN P A k) ∧ LoopsOk P A (orcN P A k) := by
 intro k
 induction k with
 | zero => exact ⟨fun f vs h r hr => by simp [orcN, callN] at hr, fun fn blk b st r hr => by simp [orcN, loopN] at hr⟩
 | succ k ih =>
   exact ⟨fun f vs h r hr => call_ok L FO ih.1 ih.2 hm S hS hr, fun fn blk b st r hr => loop_sim L FO ih.1 ih.2 hm hr⟩
end
end AM
end Go.Proofs.YtaghnpjlhmgioaaDoor
end

section
set_option linter.unusedVariables false
namespace Go.Proofs.YtaghnpjlhmgioaaDoor
namespace AM
open Go
def ownOp (P : Program) (A : Ann) (fn : FuncId) (rid i : Nat) (o : Oper) : List Nat :=
 if (match o.op with
  | .move _ => isIn i (A.take fn rid)
  | .assign _ => isIn i (A.take fn rid)
  | .load _ _ => isIn i (A.take fn rid)
  | .convert _ d _ => undSlice P d && !isIn i (A.muts fn rid)
  | .makeSlice _ _ _ => !isIn i (A.muts fn rid)
  | .buildSlice _ _ _ => !isIn i (A.muts fn rid)
  | .call { callee := .builtin .append, .. } => !isIn i (A.muts fn rid)
  | .call { callee := .value x, .. } => !retPlain A x && isFn x
  | _ => false) then o.dst.toList else []
def ownRg (P : Program) (A : Ann) (fn : FuncId) (rid : Nat) : Nat → List Oper → List Nat
 | _, [] => []
 | i, o :: os => ownOp P A fn rid i o ++ ownRg P A fn rid (i + 1) os
def ownC (P : Program) (A : Ann) (fn : FuncId) : Code → List Nat
 | .region id os _ => ownRg P A fn id 0 os.toList
 | .seq a b => ownC P A fn a ++ ownC P A fn b
 | .cond _ a b => ownC P A fn a ++ ownC P A fn b
 | .block _ b => ownC P A fn b
 | .loop b => ownC P A fn b
 | _ => []
 termination_by structural c => c
def ownF (P : Program) (A : Ann) (f : FuncId) : List Nat := match P.funcs[f]? with
 | some fn => match fn.body with
   | some c => ownC P A f c
   | none => []
 | none => []
def chkF (P : Program) (A : Ann) (f : FuncId) : Bool := match P.funcs[f]? with
 | some fn => match fn.body with
   | some c => A.bad f || chkC P A (ownF P A f) fn.ntmps f c
   | none => true
 | none => true
def chkAll (P : Program) (A : Ann) : Bool := (List.range P.funcs.size).all (chkF P A)
theorem chkAll_ok {P : Program} {A : Ann} (h : chkAll P A = true) : ∀ f fn c, A.bad f = false → P.funcs[f]? = some fn → fn.body = some c → chkC P A (ownF P A f) fn.ntmps f c = true := by
 intro f fn c hb hf hc
 simp only [chkAll, List.all_eq_true, List.mem_range] at h
 have := h f (Array.getElem?_eq_some_iff.1 hf).1
 simp only [chkF, hf, hc, hb, Bool.false_or] at this
 exact this
def namesOk (P : Program) : Bool := P.funcs.toList.all fun fn => !(fn.name == "runtime.NumGoroutine")
def retsOk (P : Program) (A : Ann) : Bool := (List.range P.funcs.size).all fun f => !A.pure f || (match A.ret f with
 | .keep => false
 | _ => true)
theorem calls_of_am {P : Program} {A : Ann} (L : Lay P) (FO : FnOk P A) (hm : P.follows .mixedOrders = true) (hc : chkAll P A = true) {f : FuncId} {vs h : List V} {r : V × List V} (hr : callW P A f vs h = some r) : CallOk P A f vs h r := by
 obtain ⟨k, hk⟩ := callW_run.1 hr
 exact ((sim_all L FO hm (ownF P A) (chkAll_ok hc) k).1 f vs h r hk).1
end AM
end Go.Proofs.YtaghnpjlhmgioaaDoor
end
