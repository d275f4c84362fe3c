/-
  Part of the proof of a statement about the given program: an abstract machine over its code, the simulation, its functions' equations, what they compute.
-/
import Derived.Test.YtmjocdbdbofcbaaDoorMg20
section
set_option linter.unusedVariables false
set_option linter.unusedSimpArgs false
namespace Go.Proofs.YtmjocdbdbofcbaaDoor
namespace AM
open Go

section
variable {P : Program} {A : Ann} {O : Orc}

theorem mem_putW {d : Option Tmp} {v : V} {p : Nat × V} (h : p ∈ putW d v) : p.1 ∈ d.toList := by
  cases d with
  | none => simp [putW] at h
  | some d => simp [putW] at h; subst h; simp
theorem mem_giveW {s : List (Nat × V)} {x : Operand} {p : Nat × V} (h : p ∈ giveW s x) : p.1 ∈ tmpL x ∧ p.2 = (look p.1 s).weak := by
  cases x with
  | tmp i => simp [giveW] at h; subst h; simp [tmpL]
  | _ => simp [giveW] at h

/-- what is shown of an operation -/
def Form (P : Program) (A : Ann) (O : Orc) (fn : FuncId) (rid i : Nat) (o : Oper) (R : Type) (s : List (Nat × V)) (h : List V) (k : St → Option R) (r : R) : Prop :=
  ∃ ws h', k ⟨ins ws s, h'⟩ = some r ∧ (∀ p ∈ ws, p.1 ∈ o.dst.toList ∨ (p.1 ∈ gvs A fn rid i o ∧ p.2 = (look p.1 s).weak)) ∧ Eqv P A O fn rid i o s h ws h' ∧ CF P A O fn rid i o (cls P A fn rid i o) s h ws h'

theorem getElem?_set_self' {α : Type} {l : List α} {i : Nat} {a : α} (h : l[i]? = some a) : l.set i a = l := by
  apply List.ext_getElem?
  intro j
  by_cases hj : j = i
  · subst hj; rw [set_self (lt_of_get h), h]
  · rw [set_ne hj]

theorem rd_append {h : List V} {id : Nat} {p : List Nat} {v : V} (hr : rd h id p = some v) (z : V) : rd (h ++ [z]) id p = some v := by
  unfold rd at *
  obtain ⟨y, hy, h2⟩ := Option.bind_eq_some_iff.1 hr
  rw [List.getElem?_append_left (lt_of_get hy), hy]; exact h2

theorem ldP_append {h : List V} {t : TypeId} {a v : V} (hl : ldP h t a = some v) (z : V) : ldP (h ++ [z]) t a = some v := by
  unfold ldP at *
  split at hl
  · split at hl
    · rename_i hh; rw [if_pos hh]; exact rd_append hl z
    · cases hl
  · exact hl
  · cases hl

theorem ldP_local {h h2 : List V} {t : TypeId} {id : Nat} {p : List Nat} {t' : TypeId} {v y : V} (hl : ldP h t (.ref id p t') = some v) (h1 : h[id]? = some y) (h3 : h2[id]? = some y) : ldP h2 t (.ref id p t') = some v := by
  simp only [ldP] at *
  split at hl
  · rename_i hh; rw [if_pos hh]
    simp only [rd, h1, h3] at *; exact hl
  · cases hl

theorem load_form {R : Type} {fn : FuncId} {rid i : Nat} {dst : Option Tmp} {t : TypeId} {ao : Operand} {type : TypeId} {pos : String} {after : Array Edge} {guard : Option (Nat × Bool)} {s : List (Nat × V)} {h : List V} {k : St → Option R} {r : R}
    (hop : op P A O fn rid i ⟨dst, .load t ao, type, pos, after, guard⟩ ⟨s, h⟩ k = some r) : Form P A O fn rid i ⟨dst, .load t ao, type, pos, after, guard⟩ R s h k r := by
  have hop' : (if homeB (A.home fn rid i) ⟨s, h⟩ ((⟨s, h⟩ : St).ev P A 0 ao) = true then if isIn i (A.take fn rid) then (ldTake h t ((⟨s, h⟩ : St).ev P A 0 ao)).bind fun r => k ({ (⟨s, h⟩ : St) with h := r.2 }.put dst r.1)
    else (if hasSl P depth t then ldS h t ((⟨s, h⟩ : St).ev P A 0 ao) else ldP h t ((⟨s, h⟩ : St).ev P A 0 ao)).bind fun v => k ((⟨s, h⟩ : St).put dst v) else none) = some r := hop
  have eqs : ∀ {R : Type} {k : St → Option R} {s2 : List (Nat × V)} {h2 : List V}, AG P A fn rid i ⟨dst, .load t ao, type, pos, after, guard⟩ s s2 → HG A fn rid i s s2 →
      op P A O fn rid i ⟨dst, .load t ao, type, pos, after, guard⟩ ⟨s2, h2⟩ k = (if homeB (A.home fn rid i) ⟨s, h⟩ ((⟨s, h⟩ : St).ev P A 0 ao) = true then if isIn i (A.take fn rid) then (ldTake h2 t ((⟨s, h⟩ : St).ev P A 0 ao)).bind fun r => k ({ (⟨s2, h2⟩ : St) with h := r.2 }.put dst r.1)
    else (if hasSl P depth t then ldS h2 t ((⟨s, h⟩ : St).ev P A 0 ao) else ldP h2 t ((⟨s, h⟩ : St).ev P A 0 ao)).bind fun v => k ((⟨s2, h2⟩ : St).put dst v) else none) := by
    intro R k s2 h2 ag hg
    have e1 := ag.1 rfl ao (by simp [Op.operands]) 0 h h2
    have e2 : homeB (A.home fn rid i) ⟨s2, h2⟩ ((⟨s, h⟩ : St).ev P A 0 ao) = homeB (A.home fn rid i) ⟨s, h⟩ ((⟨s, h⟩ : St).ev P A 0 ao) := by
      unfold homeB
      split
      · rfl
      · rename_i d hd
        simp only [St.get]
        rw [hg d hd]
    have e3 : op P A O fn rid i ⟨dst, .load t ao, type, pos, after, guard⟩ ⟨s2, h2⟩ k = (if homeB (A.home fn rid i) ⟨s2, h2⟩ ((⟨s2, h2⟩ : St).ev P A 0 ao) = true then if isIn i (A.take fn rid) then (ldTake h2 t ((⟨s2, h2⟩ : St).ev P A 0 ao)).bind fun r => k ({ (⟨s2, h2⟩ : St) with h := r.2 }.put dst r.1)
    else (if hasSl P depth t then ldS h2 t ((⟨s2, h2⟩ : St).ev P A 0 ao) else ldP h2 t ((⟨s2, h2⟩ : St).ev P A 0 ao)).bind fun v => k ((⟨s2, h2⟩ : St).put dst v) else none) := rfl
    rw [e3, ← e1, e2]
  generalize hae : (⟨s, h⟩ : St).ev P A 0 ao = a at hop' eqs
  -- where the home is known the address is known
  have home : ∀ sl, A.home fn rid i = some sl → homeB (A.home fn rid i) ⟨s, h⟩ a = true → ∃ id p p' t t', look sl s = .ref id p t ∧ a = .ref id p' t' := by
    intro sl hsl hb
    rw [hsl] at hb
    simp only [homeB, sameB, St.get] at hb
    split at hb
    · rename_i id p t id' p' t' h1
      exact ⟨id, p, p', t, t', h1, by rw [Nat.eq_of_beq_eq_true hb]⟩
    · cases hb
  split at hop'
  · rename_i hb
    simp only [hb, if_true] at eqs
    split at hop'
    · rename_i ht
      simp only [ht, if_true] at eqs
      obtain ⟨⟨v, h'⟩, hv, hk⟩ := Option.bind_eq_some_iff.1 hop'
      dsimp only at hk
      rw [put_ins] at hk
      refine ⟨putW dst v, h', hk, fun p hp => .inl (mem_putW hp), fun R k s2 ag hg => ?_, ?_⟩
      · rw [eqs ag hg, hv]; simp only [Option.bind_some]; rw [put_ins]
      · simp only [cls, ht, if_true]
        cases hhome : A.home fn rid i with
        | none => trivial
        | some sl =>
          obtain ⟨id, p, p', t1, t1', hl, rfl⟩ := home sl hhome hb
          have hv' := hv
          simp only [ldTake] at hv'
          split at hv'
          · rename_i htt
            obtain ⟨x, hx, hv'⟩ := Option.bind_eq_some_iff.1 hv'
            obtain ⟨h'', hw, he⟩ := Option.map_eq_some_iff.1 hv'
            cases he
            have hw' := hw
            unfold wr at hw'
            obtain ⟨y, hy, hw'⟩ := Option.bind_eq_some_iff.1 hw'
            obtain ⟨y', hy', rfl⟩ := Option.map_eq_some_iff.1 hw'
            refine ⟨id, p, t1, y, y', hl, hy, rfl, fun h2 hh2 R k s2 ag hg => ?_⟩
            rw [eqs ag hg]
            have : ldTake h2 t (.ref id p' t1') = some (v, h2.set id y') := by
              simp only [ldTake, htt, if_true, rd, hh2, Option.bind_some]
              simp only [rd, hy, Option.bind_some] at hx
              rw [hx]
              simp only [Option.bind_some, wr, hh2, hy', Option.map_some]
            rw [this]
            simp only [Option.bind_some]
            rw [put_ins]
          · cases hv'
    · rename_i ht
      simp only [ht, if_false, Bool.false_eq_true] at eqs
      obtain ⟨v, hv, hk⟩ := Option.bind_eq_some_iff.1 hop'
      rw [put_ins] at hk
      have go : ∀ {h2 : List V}, (if hasSl P depth t then ldS h2 t a else ldP h2 t a) = some v → Eqv P A O fn rid i ⟨dst, .load t ao, type, pos, after, guard⟩ s h2 (putW dst v) h2 := by
        intro h2 hh R k s2 ag hg
        rw [eqs ag hg, hh]; simp only [Option.bind_some]; rw [put_ins]
      refine ⟨putW dst v, h, hk, fun p hp => .inl (mem_putW hp), go hv, ?_⟩
      simp only [cls, ht, if_false, Bool.false_eq_true]
      refine ⟨rfl, fun z => go ?_, fun sl hsl => ?_⟩
      · split at hv
        · rename_i hs; rw [if_pos hs]
          unfold ldS at *
          obtain ⟨x, hx, rfl⟩ := Option.map_eq_some_iff.1 hv
          rw [ldP_append hx z]; rfl
        · rename_i hs; rw [if_neg hs]
          exact ldP_append hv z
      · obtain ⟨id, p, p', t1, t1', hl, rfl⟩ := home sl hsl hb
        obtain ⟨y, hy⟩ : ∃ y, h[id]? = some y := by
          have : ∃ x, ldP h t (.ref id p' t1') = some x := by
            split at hv
            · unfold ldS at hv; obtain ⟨x, hx, _⟩ := Option.map_eq_some_iff.1 hv; exact ⟨x, hx⟩
            · exact ⟨v, hv⟩
          obtain ⟨x, hx⟩ := this
          simp only [ldP] at hx
          split at hx
          · unfold rd at hx; obtain ⟨y, hy, _⟩ := Option.bind_eq_some_iff.1 hx; exact ⟨y, hy⟩
          · cases hx
        refine ⟨id, p, t1, y, y, hl, hy, (getElem?_set_self' hy).symm, fun h2 hh2 => ?_⟩
        rw [getElem?_set_self' hh2]
        refine go ?_
        split at hv
        · rename_i hs; rw [if_pos hs]
          unfold ldS at *
          obtain ⟨x, hx, rfl⟩ := Option.map_eq_some_iff.1 hv
          rw [ldP_local hx hy hh2]; rfl
        · rename_i hs; rw [if_neg hs]
          exact ldP_local hv hy hh2
  · cases hop'

theorem callV_congr {R : Type} {xv : V} {vs h : List V} {k : V → List V → Option R} {r : R} (hc : callV P A O xv vs h k = some r) :
    ∃ v h', k v h' = some r ∧ ∀ (S : Type) (k' : V → List V → Option S), callV P A O xv vs h k' = k' v h' := by
  unfold callV at *
  split at hc
  · unfold callF at *
    split at hc
    · rename_i he
      unfold mnz at *
      split at hc
      · dsimp only at hc
        split at hc
        · rename_i n hh
          exact ⟨_, _, hc, fun S k' => by simp only [he, if_true, hh, and_self]⟩
        · cases hc
      · cases hc
    · rename_i he
      split at hc
      · rename_i hp
        obtain ⟨q, hq, hk⟩ := Option.bind_eq_some_iff.1 hc
        exact ⟨_, _, hk, fun S k' => by simp only [he, hp, if_true, if_false, hq, Option.bind_some]; rfl⟩
      · rename_i hp
        obtain ⟨q, hq, hk⟩ := Option.bind_eq_some_iff.1 hc
        exact ⟨_, _, hk, fun S k' => by simp only [he, hp, if_false, hq, Option.bind_some]; rfl⟩
  · cases hc

theorem mem_wrs_dst {fn : FuncId} {rid i : Nat} {o : Oper} {s : List (Nat × V)} {v : V} {p : Nat × V} (hp : p ∈ putW o.dst v) : p.1 ∈ o.dst.toList ∨ (p.1 ∈ gvs A fn rid i o ∧ p.2 = (look p.1 s).weak) := .inl (mem_putW hp)

/-- an operation that writes its slot alone and leaves memory alone -/
theorem form_value {R : Type} {fn : FuncId} {rid i : Nat} {o : Oper} {s : List (Nat × V)} {h : List V} {k : St → Option R} {r : R} {v : V} (hk : k (St.put ⟨s, h⟩ o.dst v) = some r)
    (he : ∀ (R : Type) (k : St → Option R) (s2 : List (Nat × V)), AG P A fn rid i o s s2 → HG A fn rid i s s2 → op P A O fn rid i o ⟨s2, h⟩ k = k (St.put ⟨s2, h⟩ o.dst v))
    (hc : CF P A O fn rid i o (cls P A fn rid i o) s h (putW o.dst v) h) : Form P A O fn rid i o R s h k r := by
  rw [put_ins] at hk
  exact ⟨putW o.dst v, h, hk, fun p hp => mem_wrs_dst hp, fun R k s2 ag hg => by rw [he R k s2 ag hg, put_ins], hc⟩

theorem ev_h (s : List (Nat × V)) (h h2 : List V) (t : TypeId) (x : Operand) : (⟨s, h⟩ : St).ev P A t x = (⟨s, h2⟩ : St).ev P A t x := by cases x <;> rfl

/-- memory is nothing to it -/
def noMem (P : Program) (o : Oper) : Bool :=
  match o.op with
  | .nilCheck _ => true
  | .binOp _ _ _ _ _ => true
  | .unOp _ _ _ => true
  | .makeFunc _ _ _ => true
  | .makeSlice _ _ _ => true
  | .slice _ _ _ _ _ => true
  | .fieldAddr _ _ _ => true
  | .field _ _ _ => true
  | .indexAddr _ _ _ => true
  | .index _ _ _ => true
  | .extract _ _ => true
  | .build _ _ => true
  | .buildSlice _ _ _ => true
  | .convert s _ _ => noSl P s
  | .call { callee := .builtin .len, .. } => true
  | .call { callee := .builtin .min, .. } => true
  | .call { callee := .builtin .max, .. } => true
  | _ => false

theorem pureOp_noMem {o : Oper} (hn : noMem P o = true) (s : List (Nat × V)) (h h2 : List V) : pureOp P A ⟨s, h⟩ o = pureOp P A ⟨s, h2⟩ o := by
  obtain ⟨dst, op, type, pos, after, guard⟩ := o
  cases op <;> first
    | rfl
    | (simp [noMem] at hn; done)
    | skip
  case convert a b x =>
    simp only [noMem, noSl] at hn
    show conv P h a b ((⟨s, h⟩ : St).ev P A a x) = conv P h2 a b ((⟨s, h2⟩ : St).ev P A a x)
    rw [ev_h s h h2]
    generalize (⟨s, h2⟩ : St).ev P A a x = v
    unfold conv
    split
    · rfl
    · rfl
    · rfl
    · split
      · rename_i hs; rw [hs] at hn; simp at hn
      · rfl
    · rfl
  case makeFunc f first caps => cases f <;> rfl
  case call c =>
    obtain ⟨callee, ar, ts⟩ := c
    cases callee with
    | value x => simp [noMem] at hn
    | invoke x n => simp [noMem] at hn
    | builtin b => cases b <;> first | rfl | (simp [noMem] at hn; done)

theorem op_form {R : Type} {fn : FuncId} {rid i : Nat} {o : Oper} {s : List (Nat × V)} {h : List V} {k : St → Option R} {r : R} (hop : op P A O fn rid i o ⟨s, h⟩ k = some r) : Form P A O fn rid i o R s h k r := by
  -- what is left of the operations that yield a value
  have rest : (∀ {R : Type} (st : St) (k : St → Option R), op P A O fn rid i o st k = (pureOp P A st o).bind fun v => if isIn i (A.muts fn rid) then (toBox st.h v).bind fun r => k ({ st with h := r.2 }.put o.dst r.1) else k (st.put o.dst v)) →
      (isIn i (A.muts fn rid) = true → cls P A fn rid i o = .wr) → (isIn i (A.muts fn rid) = false → cls P A fn rid i o = .wr ∨ cls P A fn rid i o = .ro ∨ (cls P A fn rid i o = .n ∧ noMem P o = true)) → wkB P A fn rid i o = false → Form P A O fn rid i o R s h k r := by
    intro hun hc1 hc2 hwk
    rw [hun] at hop
    obtain ⟨v, hv, hop⟩ := Option.bind_eq_some_iff.1 hop
    by_cases hm : isIn i (A.muts fn rid) = true
    · rw [if_pos hm] at hop
      obtain ⟨q, hq, hk⟩ := Option.bind_eq_some_iff.1 hop
      dsimp only at hk
      rw [put_ins] at hk
      refine ⟨putW o.dst q.1, q.2, hk, fun p hp => mem_wrs_dst hp, fun R k s2 ag hg => ?_, by rw [hc1 hm]; trivial⟩
      rw [hun, pureOp_congr (ag.1 hwk), hv]
      simp only [Option.bind_some, if_pos hm]
      rw [hq]
      simp only [Option.bind_some]
      rw [put_ins]
    · rw [if_neg hm] at hop
      refine form_value hop (fun R k s2 ag hg => by rw [hun, pureOp_congr (ag.1 hwk), hv]; simp only [Option.bind_some, if_neg hm]) ?_
      rcases hc2 (by simpa using hm) with hc | hc | ⟨hc, hn⟩ <;> rw [hc]
      · trivial
      · rfl
      · refine ⟨rfl, fun h2 R k s2 ag hg => ?_⟩
        rw [hun, pureOp_congr (ag.1 hwk), pureOp_noMem hn s h2 h, hv]; simp only [Option.bind_some, if_neg hm]; rw [put_ins]
  obtain ⟨dst, op, type, pos, after, guard⟩ := o
  have mv : ∀ {x : Operand}, (∀ {R : Type} (st : St) (k : St → Option R), AM.op P A O fn rid i ⟨dst, op, type, pos, after, guard⟩ st k = (if isIn i (A.take fn rid) then k ((st.give x).put dst (st.ev P A type x)) else k (st.put dst (cp P type (st.ev P A type x))))) →
      x ∈ op.operands → cls P A fn rid i ⟨dst, op, type, pos, after, guard⟩ = .n → (isIn i (A.take fn rid) = true → gvs A fn rid i ⟨dst, op, type, pos, after, guard⟩ = tmpL x) → wkB P A fn rid i ⟨dst, op, type, pos, after, guard⟩ = (!isIn i (A.take fn rid) && hasSl P depth type) → Form P A O fn rid i ⟨dst, op, type, pos, after, guard⟩ R s h k r := by
    intro x hun hx hcls hg hwf0
    have hwf : (isIn i (A.take fn rid) = true → wkB P A fn rid i ⟨dst, op, type, pos, after, guard⟩ = false) ∧ (isIn i (A.take fn rid) = false → hasSl P depth type = true → wkB P A fn rid i ⟨dst, op, type, pos, after, guard⟩ = true) :=
      ⟨fun h => by rw [hwf0, h]; rfl, fun h h' => by rw [hwf0, h, h']; rfl⟩
    rw [hun] at hop
    by_cases ht : isIn i (A.take fn rid) = true
    · rw [if_pos ht] at hop
      rw [give_ins, put_ins, ← ins_append] at hop
      have hE : ∀ h2, Eqv P A O fn rid i ⟨dst, op, type, pos, after, guard⟩ s h2 (giveW s x ++ putW dst ((⟨s, h⟩ : St).ev P A type x)) h2 := by
        intro h2 R k s2 ag0 hg2
        have ag := ag0.1 (hwf.1 ht)
        rw [hun, if_pos ht, give_ins, put_ins, ← ins_append, ← ag x hx type h h2, ← giveW_congr (ag x hx)]
      refine ⟨_, h, hop, fun p hp => ?_, hE h, by rw [hcls]; exact ⟨rfl, hE⟩⟩
      rw [List.mem_append] at hp
      rcases hp with hp | hp
      · exact .inr (by rw [hg ht]; exact mem_giveW hp)
      · exact .inl (mem_putW hp)
    · rw [if_neg ht] at hop
      have hE : ∀ h2, ∀ (R : Type) (k : St → Option R) (s2 : List (Nat × V)), AG P A fn rid i ⟨dst, op, type, pos, after, guard⟩ s s2 → HG A fn rid i s s2 → AM.op P A O fn rid i ⟨dst, op, type, pos, after, guard⟩ ⟨s2, h2⟩ k = k (St.put ⟨s2, h2⟩ dst (cp P type ((⟨s, h⟩ : St).ev P A type x))) := by
        intro h2 R k s2 ag hg2
        rw [hun, if_neg ht]
        have e : cp P type ((⟨s2, h2⟩ : St).ev P A type x) = cp P type ((⟨s, h⟩ : St).ev P A type x) := by
          unfold cp
          split
          · rename_i hs; exact (ag.2 (hwf.2 (by simpa using ht) hs) x hx type h h2).symm
          · rename_i hs; exact (ag.1 (by rw [hwf0]; simp [hs]) x hx type h h2).symm
        rw [e]
      exact form_value hop (hE h) (by rw [hcls]; exact ⟨rfl, fun h2 R k s2 ag hg => by rw [hE h2 R k s2 ag hg, put_ins]⟩)
  have hop0 := hop
  unfold AM.op at hop
  simp only at hop
  split at hop
  · -- move
    rename_i x
    exact mv (x := x) (fun st k => rfl) (by simp [Op.operands]) rfl (fun ht => by simp [gvs, ht]) rfl
  · rename_i x
    exact mv (x := x) (fun st k => rfl) (by simp [Op.operands]) rfl (fun ht => by simp [gvs, ht]) rfl
  · -- pick
    rename_i c x y
    rcases ite_some hop with ⟨hb, hop⟩ | ⟨hb, hop⟩
    · have hE : ∀ h2, ∀ (R : Type) (k : St → Option R) (s2 : List (Nat × V)), AG P A fn rid i ⟨dst, .pick c x y, type, pos, after, guard⟩ s s2 → HG A fn rid i s s2 → AM.op P A O fn rid i ⟨dst, .pick c x y, type, pos, after, guard⟩ ⟨s2, h2⟩ k = k (St.put ⟨s2, h2⟩ dst (cp P type ((⟨s, h⟩ : St).ev P A type x))) := by
        intro h2 R k s2 ag hg2
        have e : AM.op P A O fn rid i ⟨dst, .pick c x y, type, pos, after, guard⟩ ⟨s2, h2⟩ k = V.ite ((⟨s2, h2⟩ : St).ev P A 0 c) (k (St.put ⟨s2, h2⟩ dst (cp P type ((⟨s2, h2⟩ : St).ev P A type x)))) (k (St.put ⟨s2, h2⟩ dst (cp P type ((⟨s2, h2⟩ : St).ev P A type y)))) := rfl
        rw [e, ← ag.1 rfl c (by simp [Op.operands]) 0 h h2, ← ag.1 rfl x (by simp [Op.operands]) type h h2, hb]; rfl
      exact form_value hop (hE h) ⟨rfl, fun h2 R k s2 ag hg => by rw [hE h2 R k s2 ag hg, put_ins]⟩
    · have hE : ∀ h2, ∀ (R : Type) (k : St → Option R) (s2 : List (Nat × V)), AG P A fn rid i ⟨dst, .pick c x y, type, pos, after, guard⟩ s s2 → HG A fn rid i s s2 → AM.op P A O fn rid i ⟨dst, .pick c x y, type, pos, after, guard⟩ ⟨s2, h2⟩ k = k (St.put ⟨s2, h2⟩ dst (cp P type ((⟨s, h⟩ : St).ev P A type y))) := by
        intro h2 R k s2 ag hg2
        have e : AM.op P A O fn rid i ⟨dst, .pick c x y, type, pos, after, guard⟩ ⟨s2, h2⟩ k = V.ite ((⟨s2, h2⟩ : St).ev P A 0 c) (k (St.put ⟨s2, h2⟩ dst (cp P type ((⟨s2, h2⟩ : St).ev P A type x)))) (k (St.put ⟨s2, h2⟩ dst (cp P type ((⟨s2, h2⟩ : St).ev P A type y)))) := rfl
        rw [e, ← ag.1 rfl c (by simp [Op.operands]) 0 h h2, ← ag.1 rfl y (by simp [Op.operands]) type h h2, hb]; rfl
      exact form_value hop (hE h) ⟨rfl, fun h2 R k s2 ag hg => by rw [hE h2 R k s2 ag hg, put_ins]⟩
  · -- alloc
    rename_i t
    rw [put_ins] at hop
    exact ⟨_, _, hop, fun p hp => mem_wrs_dst hp, fun R k s2 ag hg => by
      have e : AM.op P A O fn rid i ⟨dst, .alloc t, type, pos, after, guard⟩ ⟨s2, h⟩ k = k (St.put ⟨s2, h ++ [zero P t]⟩ dst (.ref h.length [] t)) := rfl
      rw [e, put_ins], _, rfl⟩
  · -- box
    rename_i t x
    split at hop
    · rename_i hok
      rw [put_ins] at hop
      refine ⟨_, _, hop, fun p hp => mem_wrs_dst hp, fun R k s2 ag hg => ?_, trivial⟩
      have e : AM.op P A O fn rid i ⟨dst, .box t x, type, pos, after, guard⟩ ⟨s2, h⟩ k = (if (tyOk P t (cp P t ((⟨s2, h⟩ : St).ev P A t x)) && (cp P t ((⟨s2, h⟩ : St).ev P A t x)).under h.length) = true then k (St.put ⟨s2, h ++ [cp P t ((⟨s2, h⟩ : St).ev P A t x)]⟩ dst (.ref h.length [] t)) else none) := rfl
      rw [e, ← ag.1 rfl x (by simp [Op.operands]) t h h, if_pos hok, put_ins]
    · cases hop
  · -- store
    rename_i t ao x
    obtain ⟨h', hs, hk⟩ := Option.bind_eq_some_iff.1 hop
    have hk' : k ⟨ins (giveW s x) s, h'⟩ = some r := by rw [give_ins] at hk; exact hk
    refine ⟨_, h', hk', fun p hp => .inr (mem_giveW hp), fun R k s2 ag hg => ?_, trivial⟩
    have e : AM.op P A O fn rid i ⟨dst, .store t ao x, type, pos, after, guard⟩ ⟨s2, h⟩ k = (sto P h t ((⟨s2, h⟩ : St).ev P A 0 ao) ((⟨s2, h⟩ : St).ev P A t x)).bind fun h' => k { ((⟨s2, h⟩ : St).give x) with h := h' } := rfl
    rw [e, ← ag.1 rfl ao (by simp [Op.operands]) 0 h h, ← ag.1 rfl x (by simp [Op.operands]) t h h, hs]
    simp only [Option.bind_some]
    rw [give_ins, giveW_congr (ag.1 rfl x (by simp [Op.operands]))]
  · -- load
    exact load_form hop0
  · -- copy
    rename_i ar ts
    split at hop
    · rename_i x y hxy
      obtain ⟨q, hq, hk⟩ := Option.bind_eq_some_iff.1 hop
      rw [put_ins] at hk
      refine ⟨_, q.2, hk, fun p hp => mem_wrs_dst hp, fun R k s2 ag hg => ?_, trivial⟩
      have e : AM.op P A O fn rid i ⟨dst, .call { callee := .builtin .copy, args := ar, argTypes := ts }, type, pos, after, guard⟩ ⟨s2, h⟩ k = (match ar.toList with
        | [x, y] => (cpy P (ts.getD 0 0) h ((⟨s2, h⟩ : St).ev P A (ts.getD 0 0) x) ((⟨s2, h⟩ : St).ev P A (ts.getD 1 0) y)).bind fun r => k ({ (⟨s2, h⟩ : St) with h := r.2 }.put dst r.1)
        | _ => none) := rfl
      have m1 : x ∈ ar := by rw [← Array.mem_toList_iff, hxy]; simp
      have m2 : y ∈ ar := by rw [← Array.mem_toList_iff, hxy]; simp
      rw [e, hxy]
      dsimp only
      rw [← ag.1 rfl x (by simp [Op.operands, Call.operands, m1]) _ h h, ← ag.1 rfl y (by simp [Op.operands, Call.operands, m2]) _ h h, hq]
      simp only [Option.bind_some]
      rw [put_ins]
    · cases hop
  · -- append
    rename_i ar ts
    obtain ⟨v, hv, hop⟩ := Option.bind_eq_some_iff.1 hop
    have e : ∀ {R : Type} (s2 : List (Nat × V)) (k : St → Option R), AM.op P A O fn rid i ⟨dst, .call { callee := .builtin .append, args := ar, argTypes := ts }, type, pos, after, guard⟩ ⟨s2, h⟩ k =
        (pureOp P A ⟨s2, h⟩ ⟨dst, .call { callee := .builtin .append, args := ar, argTypes := ts }, type, pos, after, guard⟩).bind fun v =>
        (if isIn i (A.muts fn rid) then (match ar.toList with
          | .const (.slice none 0 0) :: _ => (toBox (match ar.toList with | x :: _ => (⟨s2, h⟩ : St).give x | [] => ⟨s2, h⟩).h v).bind fun r => k ({ (match ar.toList with | x :: _ => (⟨s2, h⟩ : St).give x | [] => ⟨s2, h⟩) with h := r.2 }.put dst r.1)
          | _ => none) else k ((match ar.toList with | x :: _ => (⟨s2, h⟩ : St).give x | [] => ⟨s2, h⟩).put dst v)) := fun s2 k => rfl
    have gv : ∃ w : List (Nat × V) → List (Nat × V), (∀ s2, (match ar.toList with | x :: _ => (⟨s2, h⟩ : St).give x | [] => ⟨s2, h⟩) = (⟨ins (w s2) s2, h⟩ : St)) ∧ (∀ p ∈ w s, p.1 ∈ gvs A fn rid i ⟨dst, .call { callee := .builtin .append, args := ar, argTypes := ts }, type, pos, after, guard⟩ ∧ p.2 = (look p.1 s).weak) ∧
        (∀ s2, AGs P A ⟨dst, .call { callee := .builtin .append, args := ar, argTypes := ts }, type, pos, after, guard⟩ s s2 → w s2 = w s) := by
      cases hl : ar.toList with
      | nil => exact ⟨fun _ => [], fun s2 => rfl, by simp, fun _ _ => rfl⟩
      | cons x xs =>
        refine ⟨fun s2 => giveW s2 x, fun s2 => give_ins _ _ _, fun p hp => ?_, fun s2 ag => (giveW_congr (ag x ?_)).symm⟩
        · simp only [gvs, hl]; exact mem_giveW hp
        · have : x ∈ ar := by rw [← Array.mem_toList_iff, hl]; simp
          simp [Op.operands, Call.operands, this]
    obtain ⟨wf, hw1, hw2, hw3⟩ := gv
    simp only [hw1] at e
    clear hop
    have hop := hop0
    rw [e, hv] at hop
    simp only [Option.bind_some] at hop
    by_cases hm : isIn i (A.muts fn rid) = true
    · rw [if_pos hm] at hop
      split at hop
      · rename_i tl hxx
        obtain ⟨q, hq, hk⟩ := Option.bind_eq_some_iff.1 hop
        rw [put_ins, ← ins_append] at hk
        refine ⟨_, q.2, hk, fun p hp => ?_, fun R k s2 ag hg => ?_, by simp [cls, hm, CF]⟩
        · rw [List.mem_append] at hp
          rcases hp with hp | hp
          · exact .inr (hw2 p hp)
          · exact .inl (mem_putW hp)
        · rw [e, pureOp_congr (ag.1 rfl), hv]
          simp only [Option.bind_some, if_pos hm, hxx, hq]
          rw [put_ins, ← ins_append, hw3 s2 (ag.1 rfl)]
      · cases hop
    · rw [if_neg hm] at hop
      rw [put_ins, ← ins_append] at hop
      refine ⟨_, h, hop, fun p hp => ?_, fun R k s2 ag hg => ?_, by simp [cls, hm, CF]⟩
      · rw [List.mem_append] at hp
        rcases hp with hp | hp
        · exact .inr (hw2 p hp)
        · exact .inl (mem_putW hp)
      · rw [e, pureOp_congr (ag.1 rfl), hv]
        simp only [Option.bind_some, if_neg hm]
        rw [put_ins, ← ins_append, hw3 s2 (ag.1 rfl)]
  · -- a call
    rename_i x ar ts
    have e : ∀ {R : Type} (s2 : List (Nat × V)) (h2 : List V) (k : St → Option R), AM.op P A O fn rid i ⟨dst, .call { callee := .value x, args := ar, argTypes := ts }, type, pos, after, guard⟩ ⟨s2, h2⟩ k =
        callH P A O ((A.home fn rid i).map (⟨s2, h2⟩ : St).get) ((⟨s2, h2⟩ : St).ev P A 0 x) (args P A ⟨s2, h2⟩ { callee := .value x, args := ar, argTypes := ts }) h2 fun v h => if (isFn x || v.noOwn) = true then k ({ (⟨s2, h2⟩ : St) with h := h }.put dst v) else none := fun _ _ _ => rfl
    have ce : ∀ {R : Type} (s2 : List (Nat × V)) (h2 : List V) (k : St → Option R), AG P A fn rid i ⟨dst, .call { callee := .value x, args := ar, argTypes := ts }, type, pos, after, guard⟩ s s2 → HG A fn rid i s s2 →
        AM.op P A O fn rid i ⟨dst, .call { callee := .value x, args := ar, argTypes := ts }, type, pos, after, guard⟩ ⟨s2, h2⟩ k =
        callH P A O ((A.home fn rid i).map (⟨s, h⟩ : St).get) ((⟨s, h⟩ : St).ev P A 0 x) (args P A ⟨s, h⟩ { callee := .value x, args := ar, argTypes := ts }) h2 fun v h' => if (isFn x || v.noOwn) = true then k (St.put ⟨s2, h'⟩ dst v) else none := by
      intro R s2 h2 k ag0 hg
      have ag := ag0.1 rfl
      rw [e, ← ag x (by simp [Op.operands, Call.operands]) 0 h h2]
      have e1 : (A.home fn rid i).map (⟨s2, h2⟩ : St).get = (A.home fn rid i).map (⟨s, h⟩ : St).get := by
        cases hh : A.home fn rid i with
        | none => rfl
        | some d => simp only [Option.map_some, St.get]; rw [hg d hh]
      have e2 : args P A ⟨s2, h2⟩ { callee := .value x, args := ar, argTypes := ts } = args P A ⟨s, h⟩ { callee := .value x, args := ar, argTypes := ts } := by
        simp only [args]
        refine List.map_congr_left fun p hp => ?_
        obtain ⟨y, t⟩ := p
        have : y ∈ ar := by have := (List.of_mem_zip hp).1; simpa using this
        exact (ag y (by simp [Op.operands, Call.operands, this]) t h h2).symm
      rw [e1, e2]
    have hop2 : callH P A O ((A.home fn rid i).map (⟨s, h⟩ : St).get) ((⟨s, h⟩ : St).ev P A 0 x) (args P A ⟨s, h⟩ { callee := .value x, args := ar, argTypes := ts }) h (fun v h' => if (isFn x || v.noOwn) = true then k (St.put ⟨s, h'⟩ dst v) else none) = some r := hop0
    generalize hxv : (⟨s, h⟩ : St).ev P A 0 x = xv at hop2 ce
    generalize args P A ⟨s, h⟩ { callee := .value x, args := ar, argTypes := ts } = vs at hop2 ce
    cases hhome : A.home fn rid i with
    | none =>
      rw [hhome] at hop2 ce
      simp only [Option.map_none, callH] at hop2 ce
      obtain ⟨v, h', hk, hall⟩ := callV_congr hop2
      split at hk
      rotate_left
      · cases hk
      rename_i hnox
      rw [put_ins] at hk
      refine ⟨_, h', hk, fun p hp => mem_wrs_dst hp, fun R k s2 ag hg => by rw [ce s2 h k ag hg, hall, if_pos hnox, put_ins], ?_⟩
      simp only [cls, hhome]
      cases x with
      | func f =>
        dsimp only
        split
        · rename_i hp
          simp only [Bool.and_eq_true, Bool.not_eq_true'] at hp
          have hxv' : xv = .clo f [] := hxv.symm
          rw [hxv'] at hall
          have := hall (V × List V) (fun a b => some (a, b))
          simp only [callV, callF, hp.1, hp.2, if_true, if_false, Bool.false_eq_true] at this
          obtain ⟨q, hq, hk2⟩ := Option.bind_eq_some_iff.1 this
          simp only [Option.some.injEq, Prod.mk.injEq] at hk2
          exact hk2.2.symm
        · trivial
      | _ => trivial
    | some d =>
      rw [hhome] at hop2 ce
      simp only [Option.map_some, callH] at hop2 ce
      split at hop2
      · rename_i hh; cases hh
      · rename_i id p t hh
        simp only [Option.some.injEq] at hh
        simp only [hh] at ce
        split at hop2
        · rename_i y hy
          split at hop2
          · rename_i hok
            obtain ⟨v, h', hk, hall⟩ := callV_congr hop2
            split at hk
            · rename_i hok2
              split at hk
              rotate_left
              · cases hk
              rename_i hnox
              rw [put_ins] at hk
              have hlen : id < h.length := lt_of_get hy
              refine ⟨_, _, hk, fun p hp => mem_wrs_dst hp, fun R k s2 ag hg => ?_, ?_⟩
              · rw [ce s2 h k ag hg]
                simp only [hy, hok, if_true]
                rw [hall]
                simp only [hok2, if_true, hnox]
                rw [put_ins]
              · simp only [cls, hhome]
                have hl' : id < h'.length := by
                  simp only [Bool.and_eq_true] at hok2
                  exact Nat.le_of_ble_eq_true hok2.2
                refine ⟨id, p, t, y, hh, hy, set_self hl', fun y2 R k s2 ag hg => ?_⟩
                rw [ce s2 _ k ag hg]
                rw [set_self hlen]
                simp only [List.set_set, hok, if_true]
                rw [hall]
                simp only [hok2, if_true, hnox]
                rw [put_ins]
            · cases hk
          · cases hop2
        · cases hop2
      · cases hop2
  · -- all others
    rename_i n1 n2 n3 n4 n5 n6 n7 n8 n9 n10
    cases op
    case call cl =>
      obtain ⟨callee, ar, ts⟩ := cl
      cases callee with
      | value x => exact (n10 _ _ _ rfl).elim
      | invoke x n => exact rest (fun st k => rfl) (fun hm => by simp [cls]) (fun hm => by simp [cls]) rfl
      | builtin b =>
        cases b <;> first
          | exact rest (fun st k => rfl) (fun hm => by simp [cls, hm]) (fun hm => by simp [cls, hm, noMem]) rfl
          | (exfalso; solve_by_elim)
    case convert a b x => exact rest (fun st k => rfl) (fun hm => by simp [cls, hm]) (fun hm => by
        simp only [cls, hm, noMem, Bool.false_eq_true, if_false]
        split
        · rename_i hs; exact .inr (.inr ⟨rfl, hs⟩)
        · exact .inr (.inl rfl)) rfl
    all_goals first
      | exact rest (fun st k => rfl) (fun hm => by simp [cls, hm]) (fun hm => by simp [cls, hm, noMem]) rfl
      | (exfalso; solve_by_elim)

end
end AM
end Go.Proofs.YtmjocdbdbofcbaaDoor
end

section
set_option linter.unusedVariables false
set_option linter.unusedSimpArgs false
namespace Go.Proofs.YtmjocdbdbofcbaaDoor
namespace AM
open Go

section
variable {P : Program} {A : Ann} {O : Orc}

/-! ### slots -/
theorem insert_comm (a b : Nat) (v u : V) (hab : a ≠ b) : ∀ s : List (Nat × V), insert a v (insert b u s) = insert b u (insert a v s) := by
  have blt : ∀ {x y : Nat}, Nat.blt x y = true ↔ x < y := fun {x y} => ⟨fun h => Nat.le_of_ble_eq_true h, fun h => Nat.ble_eq_true_of_le h⟩
  have beq : ∀ {x y : Nat}, Nat.beq x y = true ↔ x = y := fun {x y} => ⟨Nat.eq_of_beq_eq_true, fun h => by subst h; exact Nat.beq_refl x⟩
  have key : ∀ (t : Nat) (w : V) (i : Nat) (x : V) (s : List (Nat × V)), insert t w ((i, x) :: s) = if t < i then (t, w) :: (i, x) :: s else if i = t then (t, w) :: s else (i, x) :: insert t w s := by
    intro t w i x s
    simp only [insert]
    by_cases h1 : t < i
    · rw [blt.2 h1, if_pos h1]; rfl
    · rw [Bool.eq_false_iff.2 (fun h => h1 (blt.1 h)), if_neg h1]
      by_cases h2 : i = t
      · rw [beq.2 h2, if_pos h2]; rfl
      · rw [Bool.eq_false_iff.2 (fun h => h2 (beq.1 h)), if_neg h2]; rfl
  intro s
  induction s with
  | nil =>
    simp only [show ∀ t w, insert t w [] = [(t, w)] from fun _ _ => rfl, key]
    by_cases h1 : a < b
    · have h2 : ¬ b < a := by omega
      simp [h1, h2, hab]
    · have h2 : b < a := by omega
      simp [h1, h2, Ne.symm hab]
  | cons p s ih =>
    obtain ⟨i, x⟩ := p
    rw [key b u, key a v]
    by_cases b1 : b < i <;> by_cases a1 : a < i <;> simp only [b1, a1, if_true, if_false]
    · rw [key a v, key b u]
      by_cases h1 : a < b
      · have h2 : ¬ b < a := by omega
        simp [h1, h2, hab, Ne.symm hab, key, b1]
      · have h2 : b < a := by omega
        simp [h1, h2, hab, Ne.symm hab, key, a1]
    · by_cases a2 : i = a
      · subst a2
        have h1 : ¬ i < b := by omega
        simp [key, b1, h1, Ne.symm hab, hab]
      · have h1 : ¬ a < b := by omega
        simp [key, b1, a1, a2, h1, Ne.symm hab, hab]
    · by_cases b2 : i = b
      · subst b2
        have h1 : ¬ i < a := by omega
        simp [key, a1, h1, Ne.symm hab, hab]
      · have h1 : ¬ b < a := by omega
        simp [key, a1, b1, b2, h1, Ne.symm hab, hab]
    · by_cases a2 : i = a <;> by_cases b2 : i = b <;> simp only [a2, b2, if_true, if_false]
      · exact (hab (a2.symm.trans b2)).elim
      · subst a2; simp [key, b1, b2, Ne.symm hab, hab]
      · subst b2; simp [key, a1, a2, Ne.symm hab, hab]
      · simp only [key, a1, b1, a2, b2, if_false]; rw [ih]

theorem insert_ins (p : Nat × V) : ∀ (ws s : List (Nat × V)), (∀ q ∈ ws, p.1 ≠ q.1 ∨ p = q) → insert p.1 p.2 (ins ws s) = ins ws (insert p.1 p.2 s)
  | [], _, _ => rfl
  | q :: ws, s, h => by
    have e : ∀ s, ins (q :: ws) s = ins ws (insert q.1 q.2 s) := fun _ => rfl
    rw [e, e, insert_ins p ws _ fun q hq => h q (by simp [hq])]
    rcases h q (by simp) with h | h
    · rw [insert_comm _ _ _ _ h]
    · rw [h]

theorem ins_comm : ∀ (us ws s : List (Nat × V)), (∀ p ∈ us, ∀ q ∈ ws, p.1 ≠ q.1 ∨ p = q) → ins us (ins ws s) = ins ws (ins us s)
  | [], _, _, _ => rfl
  | p :: us, ws, s, h => by
    have e : ∀ s, ins (p :: us) s = ins us (insert p.1 p.2 s) := fun _ => rfl
    rw [e, e, insert_ins p ws s (h p (by simp)), ins_comm us ws _ fun p hp => h p (by simp [hp])]

theorem look_ins (d : Nat) : ∀ (ws s : List (Nat × V)), (∀ p ∈ ws, p.1 = d → p.2 = look d s) → look d (ins ws s) = look d s
  | [], _, _ => rfl
  | p :: ws, s, h => by
    have e : ∀ s, ins (p :: ws) s = ins ws (insert p.1 p.2 s) := fun _ => rfl
    have h0 : look d (insert p.1 p.2 s) = look d s := by
      rw [look_insert]
      split
      · rename_i hd; exact h p (by simp) hd.symm
      · rfl
    rw [e, look_ins d ws _ fun q hq hd => by rw [h0]; exact h q (by simp [hq]) hd, h0]

theorem isIn_append (x : Nat) : ∀ a b : List Nat, isIn x (a ++ b) = (isIn x a || isIn x b)
  | [], _ => rfl
  | y :: a, b => by
    simp only [List.cons_append, isIn]
    cases Nat.beq y x
    · exact isIn_append x a b
    · rfl

theorem ops_sk {R : Type} {fn : FuncId} {rid : Nat} {os : Array Oper} {k : St → Option R} : ∀ (is : List Nat) (sk sk2 : List Nat) (st : St), (∀ x, isIn x sk = isIn x sk2) →
    ops P A O fn rid os sk is st k = ops P A O fn rid os sk2 is st k
  | [], _, _, _, _ => rfl
  | i :: is, sk, sk2, st, h => by
    have h1 : ∀ x, isIn x (i :: sk) = isIn x (i :: sk2) := by intro x; simp only [isIn, h x]
    have e1 : ∀ st, ops P A O fn rid os (i :: sk) is st k = ops P A O fn rid os (i :: sk2) is st k := fun st => ops_sk is _ _ st h1
    have e2 : (fun st => ops P A O fn rid os sk is st k) = fun st => ops P A O fn rid os sk2 is st k := funext fun st => ops_sk is _ _ st h
    simp only [ops, e1, e2, h, ops_sk is _ _ _ h]

/-! ### one step -/
/-- the slot of an operation's guard -/
def grd (os : Array Oper) (o : Oper) : Option Nat := match o.guard with
  | some (j, _) => (os[j]?).bind (·.dst)
  | none => none
def grdI (o : Oper) : Option Nat := o.guard.map (·.1)

/-- an operation sees the same -/
structure Same (P : Program) (A : Ann) (os : Array Oper) (fn : FuncId) (rid i : Nat) (o : Oper) (sk sk2 : List Nat) (s s2 : List (Nat × V)) : Prop where
  ag : AG P A fn rid i o s s2
  hg : HG A fn rid i s s2
  gd : ∀ d, grd os o = some d → look d s = look d s2
  sk : ∀ j, grdI o = some j → isIn j sk = isIn j sk2

def StE (P : Program) (A : Ann) (O : Orc) (os : Array Oper) (fn : FuncId) (rid i : Nat) (o : Oper) (sk : List Nat) (s : List (Nat × V)) (nsk : List Nat) (ws : List (Nat × V)) (h h' : List V) : Prop :=
  ∀ (R : Type) (k : St → Option R) (is sk2 : List Nat) (s2 : List (Nat × V)), Same P A os fn rid i o sk sk2 s s2 → ops P A O fn rid os sk2 (i :: is) ⟨s2, h⟩ k = ops P A O fn rid os (nsk ++ sk2) is ⟨ins ws s2, h'⟩ k

def LocE (E : List V → List V → Prop) (s : List (Nat × V)) (sl : Nat) (h h' : List V) : Prop :=
  ∃ id p t y y', look sl s = .ref id p t ∧ h[id]? = some y ∧ h' = h.set id y' ∧ ∀ h2 : List V, h2[id]? = some y → E h2 (h2.set id y')
def AvoidE (E : List V → List V → Prop) (s : List (Nat × V)) (sl : Nat) (h h' : List V) : Prop :=
  ∃ id p t y, look sl s = .ref id p t ∧ h[id]? = some y ∧ h'[id]? = some y ∧ ∀ y2, E (h.set id y2) (h'.set id y2)
def CFE (E : List V → List V → Prop) (s : List (Nat × V)) (c : Cls) (h h' : List V) : Prop :=
  match c with
  | .n => h' = h ∧ ∀ h2, E h2 h2
  | .ro => h' = h
  | .ld home => h' = h ∧ (∀ z, E (h ++ [z]) (h ++ [z])) ∧ ∀ sl, home = some sl → LocE E s sl h h'
  | .tk sl => LocE E s sl h h'
  | .hid sl => AvoidE E s sl h h'
  | .al => ∃ z, h' = h ++ [z]
  | .wr => True

theorem CFE.mono {E E' : List V → List V → Prop} (he : ∀ a b, E a b → E' a b) {s : List (Nat × V)} {c : Cls} {h h' : List V} (hc : CFE E s c h h') : CFE E' s c h h' := by
  have l : ∀ {sl}, LocE E s sl h h' → LocE E' s sl h h' := fun ⟨id, p, t, y, y', a, b, c, d⟩ => ⟨id, p, t, y, y', a, b, c, fun h2 hh => he _ _ (d h2 hh)⟩
  cases c with
  | n => exact ⟨hc.1, fun h2 => he _ _ (hc.2 h2)⟩
  | ro => exact hc
  | ld home => exact ⟨hc.1, fun z => he _ _ (hc.2.1 z), fun sl hsl => l (hc.2.2 sl hsl)⟩
  | tk sl => exact l hc
  | hid sl => obtain ⟨id, p, t, y, a, b, c, d⟩ := hc; exact ⟨id, p, t, y, a, b, c, fun y2 => he _ _ (d y2)⟩
  | al => exact hc
  | wr => trivial

theorem CF.cfe {fn : FuncId} {rid i : Nat} {o : Oper} {c : Cls} {s ws : List (Nat × V)} {h h' : List V} (hc : CF P A O fn rid i o c s h ws h') : CFE (fun a b => Eqv P A O fn rid i o s a ws b) s c h h' := by
  cases c <;> exact hc

/-- what one step comes to -/
theorem stp_form {R : Type} {fn : FuncId} {rid i : Nat} {os : Array Oper} {sk is : List Nat} {s : List (Nat × V)} {h : List V} {k : St → Option R} {r : R}
    (hop : ops P A O fn rid os sk (i :: is) ⟨s, h⟩ k = some r) : ∃ o nsk ws h', os[i]? = some o ∧ (nsk = [] ∨ nsk = [i]) ∧ ops P A O fn rid os (nsk ++ sk) is ⟨ins ws s, h'⟩ k = some r ∧
      (∀ p ∈ ws, p.1 ∈ o.dst.toList ∨ (p.1 ∈ gvs A fn rid i o ∧ p.2 = (look p.1 s).weak) ∨ (grd os o = some p.1 ∧ p.2 = look p.1 s)) ∧ StE P A O os fn rid i o sk s nsk ws h h' ∧
      (CFE (StE P A O os fn rid i o sk s nsk ws) s (cls P A fn rid i o) h h' ∨ CFE (StE P A O os fn rid i o sk s nsk ws) s .n h h') := by
  have hop0 := hop
  simp only [ops] at hop
  split at hop
  · cases hop
  · rename_i o ho
    -- it is carried out, behind slots that are written again as they are
    have run : ∀ {us : List (Nat × V)} {sk' : List Nat}, (∀ p ∈ us, grd os o = some p.1 ∧ p.2 = look p.1 s) →
        (op P A O fn rid i o ⟨ins us s, h⟩ fun st => ops P A O fn rid os sk' is st k) = some r → sk' = sk →
        (∀ (R : Type) (k : St → Option R) (is sk2 : List Nat) (s2 : List (Nat × V)) (h2 : List V), Same P A os fn rid i o sk sk2 s s2 → ops P A O fn rid os sk2 (i :: is) ⟨s2, h2⟩ k = op P A O fn rid i o ⟨ins us s2, h2⟩ fun st => ops P A O fn rid os sk2 is st k) →
        ∃ o nsk ws h', os[i]? = some o ∧ (nsk = [] ∨ nsk = [i]) ∧ ops P A O fn rid os (nsk ++ sk) is ⟨ins ws s, h'⟩ k = some r ∧
          (∀ p ∈ ws, p.1 ∈ o.dst.toList ∨ (p.1 ∈ gvs A fn rid i o ∧ p.2 = (look p.1 s).weak) ∨ (grd os o = some p.1 ∧ p.2 = look p.1 s)) ∧ StE P A O os fn rid i o sk s nsk ws h h' ∧
          (CFE (StE P A O os fn rid i o sk s nsk ws) s (cls P A fn rid i o) h h' ∨ CFE (StE P A O os fn rid i o sk s nsk ws) s .n h h') := by
      intro us sk' hus hrun hsk hall
      subst hsk
      obtain ⟨ws, h', hk, hw, he, hc⟩ := op_form hrun
      have lus : ∀ d, look d (ins us s) = look d s := fun d => look_ins d us s fun p hp hd => by rw [(hus p hp).2, hd]
      have lus2 : ∀ {s2 : List (Nat × V)}, (∀ d, grd os o = some d → look d s = look d s2) → ∀ d, look d (ins us s2) = look d s2 := fun hgd d => look_ins d us _ fun p hp hd => by
        obtain ⟨h1, h2⟩ := hus p hp
        rw [h2, hgd _ h1, hd]
      have evl : ∀ {s2 : List (Nat × V)} {h2 : List V} {s3 : List (Nat × V)} {h3 : List V} {t : TypeId} {x : Operand}, (∀ d, look d s2 = look d s3) → (⟨s2, h2⟩ : St).ev P A t x = (⟨s3, h3⟩ : St).ev P A t x := by
        intro s2 h2 s3 h3 t x hl
        cases x with
        | tmp d => exact hl d
        | _ => rfl
      have lift : ∀ a b, Eqv P A O fn rid i o (ins us s) a ws b → StE P A O os fn rid i o sk' s [] (us ++ ws) a b := by
        intro a b hE R k is sk2 s2 hs
        rw [hall R k is sk2 s2 a hs, hE R _ (ins us s2) ⟨fun hwk x hx t h1 h2 => ?_, fun hwk x hx t h1 h2 => ?_⟩ (fun d hd => ?_), ins_append]
        · rfl
        · rw [evl (s2 := ins us s) (s3 := s) (h3 := h1) lus, evl (s2 := ins us s2) (s3 := s2) (h3 := h2) (lus2 hs.gd)]
          exact hs.ag.1 hwk x hx t h1 h2
        · rw [evl (s2 := ins us s) (s3 := s) (h3 := h1) lus, evl (s2 := ins us s2) (s3 := s2) (h3 := h2) (lus2 hs.gd)]
          exact hs.ag.2 hwk x hx t h1 h2
        · rw [lus, lus2 hs.gd]; exact hs.hg d hd
      have cfeq : CFE (StE P A O os fn rid i o sk' s [] (us ++ ws)) s (cls P A fn rid i o) h h' := by
        have := (CF.cfe hc).mono lift
        have ll : ∀ {sl}, LocE (StE P A O os fn rid i o sk' s [] (us ++ ws)) (ins us s) sl h h' → LocE (StE P A O os fn rid i o sk' s [] (us ++ ws)) s sl h h' := fun ⟨id, p, t, y, y', a, b, c, d⟩ => ⟨id, p, t, y, y', by rw [← lus]; exact a, b, c, d⟩
        revert this
        cases cls P A fn rid i o with
        | n => exact id
        | ro => exact id
        | ld home => exact fun hh => ⟨hh.1, hh.2.1, fun sl hsl => ll (hh.2.2 sl hsl)⟩
        | tk sl => exact ll
        | hid sl => exact fun ⟨id, p, t, y, a, b, c, d⟩ => ⟨id, p, t, y, by rw [← lus]; exact a, b, c, d⟩
        | al => exact id
        | wr => exact id
      refine ⟨o, [], us ++ ws, h', ho, .inl rfl, by rw [ins_append]; exact hk, fun p hp => ?_, lift _ _ he, .inl cfeq⟩
      rw [List.mem_append] at hp
      rcases hp with hp | hp
      · exact .inr (.inr (hus p hp))
      · rcases hw p hp with hp | ⟨hp, hp2⟩
        · exact .inl hp
        · exact .inr (.inl ⟨hp, by rw [hp2, lus]⟩)
    -- it is passed over
    have pass : ∀ {us : List (Nat × V)}, (∀ p ∈ us, grd os o = some p.1 ∧ p.2 = look p.1 s) →
        ops P A O fn rid os (i :: sk) is (St.put ⟨ins us s, h⟩ o.dst (.tup [])) k = some r →
        (∀ (R : Type) (k : St → Option R) (is sk2 : List Nat) (s2 : List (Nat × V)) (h2 : List V), Same P A os fn rid i o sk sk2 s s2 → ops P A O fn rid os sk2 (i :: is) ⟨s2, h2⟩ k = ops P A O fn rid os (i :: sk2) is (St.put ⟨ins us s2, h2⟩ o.dst (.tup [])) k) →
        ∃ o nsk ws h', os[i]? = some o ∧ (nsk = [] ∨ nsk = [i]) ∧ ops P A O fn rid os (nsk ++ sk) is ⟨ins ws s, h'⟩ k = some r ∧
          (∀ p ∈ ws, p.1 ∈ o.dst.toList ∨ (p.1 ∈ gvs A fn rid i o ∧ p.2 = (look p.1 s).weak) ∨ (grd os o = some p.1 ∧ p.2 = look p.1 s)) ∧ StE P A O os fn rid i o sk s nsk ws h h' ∧
          (CFE (StE P A O os fn rid i o sk s nsk ws) s (cls P A fn rid i o) h h' ∨ CFE (StE P A O os fn rid i o sk s nsk ws) s .n h h') := by
      intro us hus hrun hall
      rw [put_ins, ← ins_append] at hrun
      have hE : ∀ h2, StE P A O os fn rid i o sk s [i] (us ++ putW o.dst (.tup [])) h2 h2 := by
        intro h2 R k is sk2 s2 hs
        rw [hall R k is sk2 s2 h2 hs, put_ins, ← ins_append]; rfl
      refine ⟨o, [i], us ++ putW o.dst (.tup []), h, ho, .inr rfl, hrun, fun p hp => ?_, hE h, .inr ⟨rfl, hE⟩⟩
      rw [List.mem_append] at hp
      rcases hp with hp | hp
      · exact .inr (.inr (hus p hp))
      · exact .inl (mem_putW hp)
    split at hop
    · rename_i hg
      refine run (us := []) (by simp) hop rfl fun R k is sk2 s2 h2 hs => ?_
      simp only [ops, ho, hg]; rfl
    · rename_i j want hg
      split at hop
      · cases hop
      · rename_i d hd
        have hgrd : grd os o = some d := by simp only [grd, hg]; exact hd
        have hgi : grdI o = some j := by simp [grdI, hg]
        split at hop
        · rename_i hsk
          split at hop
          · rename_i hst
            refine pass (us := []) (by simp) hop fun R k is sk2 s2 h2 hs => ?_
            have e1 : isIn j sk2 = true := by rw [← hs.sk j hgi]; exact hsk
            have e2 : (⟨s2, h2⟩ : St).get d = .tup [] := by
              have := hs.gd d hgrd
              simp only [St.get] at hst ⊢
              rw [← this]; exact hst
            simp only [ops, ho, hg, hd, e1, e2, if_true]; rfl
          · cases hop
        · rename_i hsk
          have key : ∀ b : Bool, (⟨s, h⟩ : St).get d = .bool b → (∀ p ∈ [(d, V.bool b)], grd os o = some p.1 ∧ p.2 = look p.1 s) ∧
              ∀ (R : Type) (k : St → Option R) (is sk2 : List Nat) (s2 : List (Nat × V)) (h2 : List V), Same P A os fn rid i o sk sk2 s s2 → ops P A O fn rid os sk2 (i :: is) ⟨s2, h2⟩ k =
                if want = b then op P A O fn rid i o ⟨ins [(d, V.bool b)] s2, h2⟩ fun st => ops P A O fn rid os sk2 is st k else ops P A O fn rid os (i :: sk2) is (St.put ⟨ins [(d, V.bool b)] s2, h2⟩ o.dst (.tup [])) k := by
            intro b hb
            refine ⟨fun p hp => ?_, fun R k is sk2 s2 h2 hs => ?_⟩
            · simp only [List.mem_singleton] at hp
              subst hp
              exact ⟨hgrd, hb.symm⟩
            · have e1 : isIn j sk2 = false := by rw [← hs.sk j hgi]; simpa using hsk
              have e2 : (⟨s2, h2⟩ : St).get d = .bool b := by
                have := hs.gd d hgrd
                simp only [St.get] at hb ⊢
                rw [← this]; exact hb
              simp only [ops, ho, hg, hd, e1, e2, Bool.false_eq_true, if_false]
              cases b <;> cases want <;> rfl
          rcases ite_some hop with ⟨hb, hop⟩ | ⟨hb, hop⟩
          · obtain ⟨k1, k2⟩ := key true hb
            split at hop
            · rename_i hw
              exact run (us := [(d, V.bool true)]) k1 hop rfl fun R k is sk2 s2 h2 hs => by rw [k2 R k is sk2 s2 h2 hs, if_pos hw]
            · rename_i hw
              exact pass (us := [(d, V.bool true)]) k1 hop fun R k is sk2 s2 h2 hs => by rw [k2 R k is sk2 s2 h2 hs, if_neg hw]
          · obtain ⟨k1, k2⟩ := key false hb
            split at hop
            · rename_i hw
              exact pass (us := [(d, V.bool false)]) k1 hop fun R k is sk2 s2 h2 hs => by rw [k2 R k is sk2 s2 h2 hs, if_neg (by rw [hw]; simp)]
            · rename_i hw
              exact run (us := [(d, V.bool false)]) k1 hop rfl fun R k is sk2 s2 h2 hs => by rw [k2 R k is sk2 s2 h2 hs, if_pos (by simpa using hw)]

end
end AM
end Go.Proofs.YtmjocdbdbofcbaaDoor
end

section
set_option linter.unusedVariables false
set_option linter.unusedSimpArgs false
namespace Go.Proofs.YtmjocdbdbofcbaaDoor
namespace AM
open Go

def disj (a b : List Nat) : Bool := a.all fun x => !isIn x b

theorem isIn_iff {x : Nat} : ∀ {l : List Nat}, isIn x l = true ↔ x ∈ l
  | [] => by simp [isIn]
  | y :: l => by
    simp only [isIn, List.mem_cons]
    cases h : Nat.beq y x
    · have hne : y ≠ x := Nat.ne_of_beq_eq_false h
      simp only [cond_false]
      rw [isIn_iff (l := l)]
      constructor
      · exact .inr
      · rintro (rfl | h)
        · exact (hne rfl).elim
        · exact h
    · have := Nat.eq_of_beq_eq_true h
      subst this
      simp

theorem disj_spec {a b : List Nat} (h : disj a b = true) {x : Nat} (ha : x ∈ a) : x ∉ b := by
  simp only [disj, List.all_eq_true] at h
  have := h x ha
  intro hb
  rw [isIn_iff.2 hb] at this; cases this

section
variable {P : Program} {A : Ann} {O : Orc}

def opdTmps (o : Oper) : List Nat := o.op.operands.toList.flatMap tmpL
def rds (P : Program) (A : Ann) (os : Array Oper) (fn : FuncId) (rid i : Nat) (o : Oper) : List Nat := (if wkB P A fn rid i o then [] else opdTmps o) ++ (A.home fn rid i).toList ++ (grd os o).toList
def rdw (P : Program) (A : Ann) (fn : FuncId) (rid i : Nat) (o : Oper) : List Nat := if wkB P A fn rid i o then opdTmps o else []

def inAp (a b : Nat) (l : List (Nat × Nat)) : Bool := l.any fun p => (Nat.beq p.1 a && Nat.beq p.2 b) || (Nat.beq p.1 b && Nat.beq p.2 a)
def apSl (l : List (Nat × Nat)) : List Nat := l.map (·.1) ++ l.map (·.2)

def clsOk (ap : List (Nat × Nat)) : Cls → Cls → Bool
  | .n, _ => true
  | _, .n => true
  | .ro, .ro => true
  | .ro, .ld _ => true
  | .ld _, .ro => true
  | .ld _, .ld _ => true
  | .ld (some a), .hid b => Nat.beq a b
  | .hid b, .ld (some a) => Nat.beq a b
  | .tk a, .hid b => Nat.beq a b
  | .hid b, .tk a => Nat.beq a b
  | .tk a, .ld (some b) => inAp a b ap
  | .ld (some b), .tk a => inAp a b ap
  | .tk a, .tk b => inAp a b ap
  | .ld _, .al => true
  | _, _ => false

def indepB (P : Program) (A : Ann) (os : Array Oper) (fn : FuncId) (rid j i : Nat) : Bool :=
  match os[j]?, os[i]? with
  | some oj, some oi => (disj (wrs A fn rid j oj) (rds P A os fn rid i oi) && disj oj.dst.toList (rdw P A fn rid i oi)) && (disj (wrs A fn rid i oi) (rds P A os fn rid j oj) && disj oi.dst.toList (rdw P A fn rid j oj)) && disj (wrs A fn rid j oj) (wrs A fn rid i oi) &&
    (match grdI oi with | some x => !Nat.beq x j | none => true) && (match grdI oj with | some x => !Nat.beq x i | none => true) && clsOk (A.apart fn rid) (cls P A fn rid j oj) (cls P A fn rid i oi)
  | _, _ => false

theorem apart_spec {st : St} {l : List (Nat × Nat)} (h : apartB st l = true) {a b : Nat} (hab : inAp a b l = true) {id id' : Nat} {p p' : List Nat} {t t' : TypeId} (ha : look a st.s = .ref id p t) (hb : look b st.s = .ref id' p' t') : id ≠ id' := by
  induction l with
  | nil => simp [inAp] at hab
  | cons x l ih =>
    obtain ⟨u, v⟩ := x
    simp only [apartB, Bool.and_eq_true] at h
    simp only [inAp, List.any_cons, Bool.or_eq_true, Bool.and_eq_true] at hab
    rcases hab with (⟨h1, h2⟩ | ⟨h1, h2⟩) | hab
    · have e1 := Nat.eq_of_beq_eq_true h1; have e2 := Nat.eq_of_beq_eq_true h2
      subst e1 e2
      have := h.1
      simp only [diffB, St.get, ha, hb, Bool.not_eq_true'] at this
      exact Nat.ne_of_beq_eq_false this
    · have e1 := Nat.eq_of_beq_eq_true h1; have e2 := Nat.eq_of_beq_eq_true h2
      subst e1 e2
      have := h.1
      simp only [diffB, St.get, ha, hb, Bool.not_eq_true'] at this
      exact fun hh => Nat.ne_of_beq_eq_false this hh.symm
    · exact ih h.2 (by simpa [inAp] using hab)

theorem apart_keep {s s2 : List (Nat × V)} {h h2 : List V} {l : List (Nat × Nat)} (hl : ∀ d, d ∈ apSl l → look d s2 = look d s) (ha : apartB ⟨s, h⟩ l = true) : apartB ⟨s2, h2⟩ l = true := by
  induction l with
  | nil => rfl
  | cons x l ih =>
    obtain ⟨u, v⟩ := x
    simp only [apartB, Bool.and_eq_true] at ha ⊢
    refine ⟨?_, ih (fun d hd => hl d ?_) ha.2⟩
    · simp only [St.get]
      rw [hl u (by simp [apSl]), hl v (by simp [apSl])]
      exact ha.1
    · simp only [apSl, List.mem_append, List.map_cons, List.mem_cons] at hd ⊢
      rcases hd with hd | hd
      · exact .inl (.inr hd)
      · exact .inr (.inr hd)

theorem heap_swap {Ej Ei : List V → List V → Prop} {s : List (Nat × V)} {cj ci : Cls} {h h1 h2 : List V} {ap : List (Nat × Nat)} (hap : apartB ⟨s, h⟩ ap = true) (hej : Ej h h1) (hei : Ei h1 h2)
    (hj : CFE Ej s cj h h1 ∨ CFE Ej s .n h h1) (hi : CFE Ei s ci h1 h2 ∨ CFE Ei s .n h1 h2) (hc : clsOk ap cj ci = true) : ∃ h1', Ei h h1' ∧ Ej h1' h2 := by
  have nj : CFE Ej s .n h h1 → ∃ h1', Ei h h1' ∧ Ej h1' h2 := by rintro ⟨rfl, hh⟩; exact ⟨h2, hei, hh h2⟩
  have ni : CFE Ei s .n h1 h2 → ∃ h1', Ei h h1' ∧ Ej h1' h2 := by rintro ⟨rfl, hh⟩; exact ⟨h, hh h, hej⟩
  have ro : h1 = h → h2 = h1 → ∃ h1', Ei h h1' ∧ Ej h1' h2 := by rintro rfl rfl; exact ⟨_, hei, hej⟩
  -- one box, and a call that does not see it
  have la : ∀ {a b : Nat}, a = b → LocE Ej s a h h1 → AvoidE Ei s b h1 h2 → ∃ h1', Ei h h1' ∧ Ej h1' h2 := by
    rintro a _ rfl ⟨id, p, t, y, y', k1, k2, rfl, k4⟩ ⟨id', p', t', z, l1, l2, l3, l4⟩
    rw [k1] at l1; cases l1
    have hlt := lt_of_get k2
    rw [set_self hlt] at l2; cases l2
    have e1 := l4 y
    rw [List.set_set, getElem?_set_self' k2] at e1
    refine ⟨_, e1, ?_⟩
    have := k4 (h2.set id y) (set_self (lt_of_get l3))
    rw [List.set_set, getElem?_set_self' l3] at this
    exact this
  have al : ∀ {a b : Nat}, a = b → AvoidE Ej s a h h1 → LocE Ei s b h1 h2 → ∃ h1', Ei h h1' ∧ Ej h1' h2 := by
    rintro a _ rfl ⟨id, p, t, y, k1, k2, k3, k4⟩ ⟨id', p', t', z, y', l1, l2, rfl, l4⟩
    rw [k1] at l1; cases l1
    rw [k3] at l2; cases l2
    exact ⟨_, l4 h k2, k4 y'⟩
  have ll : ∀ {a b : Nat}, inAp a b ap = true → LocE Ej s a h h1 → LocE Ei s b h1 h2 → ∃ h1', Ei h h1' ∧ Ej h1' h2 := by
    rintro a b hab ⟨id, p, t, y, y', k1, k2, rfl, k4⟩ ⟨id', p', t', z, z', l1, l2, rfl, l4⟩
    have hne := apart_spec hap hab k1 l1
    rw [set_ne (Ne.symm hne)] at l2
    refine ⟨_, l4 h l2, ?_⟩
    have := k4 (h.set id' z') (by rw [set_ne hne]; exact k2)
    rw [List.set_comm _ _ (Ne.symm hne)] at this
    exact this
  have ap' : ∀ {a b : Nat}, inAp a b ap = true → inAp b a ap = true := by
    intro a b hab
    simp only [inAp, List.any_eq_true] at hab ⊢
    obtain ⟨p, hp, h⟩ := hab
    exact ⟨p, hp, by rw [Bool.or_comm]; exact h⟩
  rcases hj with hj | hj
  · rcases hi with hi | hi
    · cases cj <;> cases ci <;> first
        | exact nj hj
        | exact ni hi
        | (simp [clsOk] at hc; done)
        | skip
      case ro.ro => exact ro hj hi
      case ro.ld => exact ro hj hi.1
      case ld.ro => exact ro hj.1 hi
      case ld.ld => exact ro hj.1 hi.1
      case ld.al sl =>
        obtain ⟨rfl, h2', _⟩ := hj
        obtain ⟨z, rfl⟩ := hi
        exact ⟨_, hei, h2' z⟩
      case ld.hid sl b =>
        cases sl with
        | none => simp [clsOk] at hc
        | some a => exact la (Nat.eq_of_beq_eq_true hc) (hj.2.2 a rfl) hi
      case hid.ld b sl =>
        cases sl with
        | none => simp [clsOk] at hc
        | some a => exact al (Nat.eq_of_beq_eq_true hc).symm hj (hi.2.2 a rfl)
      case tk.hid a b => exact la (Nat.eq_of_beq_eq_true hc) hj hi
      case hid.tk b a => exact al (Nat.eq_of_beq_eq_true hc).symm hj hi
      case tk.ld a sl =>
        cases sl with
        | none => simp [clsOk] at hc
        | some b => exact ll hc hj (hi.2.2 b rfl)
      case ld.tk sl a =>
        cases sl with
        | none => simp [clsOk] at hc
        | some b => exact ll (ap' hc) (hj.2.2 b rfl) hi
      case tk.tk a b => exact ll hc hj hi
    · exact ni hi
  · exact nj hj

theorem same_of {os : Array Oper} {fn : FuncId} {rid i : Nat} {o : Oper} {sk sk2 : List Nat} {s s2 : List (Nat × V)} (hl : ∀ d, d ∈ rds P A os fn rid i o → look d s = look d s2) (hlw : ∀ d, d ∈ rdw P A fn rid i o → (look d s).weak = (look d s2).weak)
    (hs : ∀ j, grdI o = some j → isIn j sk = isIn j sk2) : Same P A os fn rid i o sk sk2 s s2 := by
  refine ⟨⟨fun hw x hx t h h2 => ?_, fun hw x hx t h h2 => ?_⟩, fun d hd => hl d ?_, fun d hd => hl d ?_, hs⟩
  · cases x with
    | tmp d =>
      refine hl d ?_
      simp only [rds, hw, opdTmps, List.mem_append, List.mem_flatMap, Bool.false_eq_true, if_false]
      exact .inl (.inl ⟨_, Array.mem_toList_iff.2 hx, by simp [tmpL]⟩)
    | _ => rfl
  · cases x with
    | tmp d =>
      refine hlw d ?_
      simp only [rdw, hw, opdTmps, List.mem_flatMap, if_true]
      exact ⟨_, Array.mem_toList_iff.2 hx, by simp [tmpL]⟩
    | _ => rfl
  · simp [rds, hd]
  · simp [rds, hd]

theorem gvs_sub {os : Array Oper} {fn : FuncId} {rid i : Nat} {o : Oper} {x : Nat} (h : x ∈ gvs A fn rid i o) : x ∈ rds P A os fn rid i o := by
  have key : ∀ {y : Operand}, y ∈ o.op.operands → x ∈ tmpL y → wkB P A fn rid i o = false → x ∈ rds P A os fn rid i o := by
    intro y hy hx hw
    simp only [rds, hw, opdTmps, List.mem_append, List.mem_flatMap, Bool.false_eq_true, if_false]
    exact .inl (.inl ⟨y, Array.mem_toList_iff.2 hy, hx⟩)
  obtain ⟨dst, op, type, pos, after, guard⟩ := o
  unfold gvs at h
  simp only at h
  split at h
  · split at h
    · rename_i ht; exact key (by simp [Op.operands]) h (by simp [wkB, ht])
    · simp at h
  · split at h
    · rename_i ht; exact key (by simp [Op.operands]) h (by simp [wkB, ht])
    · simp at h
  · exact key (by simp [Op.operands]) h rfl
  · split at h
    · rename_i ar ts _ y ys hl
      have : y ∈ ar := by rw [← Array.mem_toList_iff, hl]; simp
      exact key (by simp [Op.operands, Call.operands, this]) h rfl
    · simp at h
  · simp at h

mutual
theorem weak_weak : ∀ v : V, v.weak.weak = v.weak
  | .agg t fs => by simp only [V.weak]; rw [weak_weakL fs]
  | .row t fs => by simp only [V.weak]; rw [weak_weakL fs]
  | .lst e f xs => by cases f <;> rfl
  | .bool _ => rfl
  | .int _ _ => rfl
  | .str _ => rfl
  | .win _ _ _ _ _ => rfl
  | .ref _ _ _ => rfl
  | .rop _ _ => rfl
  | .nilp => rfl
  | .clo _ _ => rfl
  | .nilf => rfl
  | .nili => rfl
  | .tup _ => rfl
  | .undef => rfl
theorem weak_weakL : ∀ vs : List V, weakL (weakL vs) = weakL vs
  | [] => rfl
  | v :: vs => by simp only [weakL]; rw [weak_weak v, weak_weakL vs]
end

theorem look_ins_weak (d : Nat) : ∀ (ws s : List (Nat × V)), (∀ p ∈ ws, p.1 = d → p.2.weak = (look d s).weak) → (look d (ins ws s)).weak = (look d s).weak
  | [], _, _ => rfl
  | p :: ws, s, h => by
    have e : ∀ s, ins (p :: ws) s = ins ws (insert p.1 p.2 s) := fun _ => rfl
    have h0 : (look d (insert p.1 p.2 s)).weak = (look d s).weak := by
      rw [look_insert]
      split
      · rename_i hd; exact h p (by simp) hd.symm
      · rfl
    rw [e, look_ins_weak d ws _ fun q hq hd => by rw [h0]; exact h q (by simp [hq]) hd, h0]

theorem swap {R : Type} {fn : FuncId} {rid i j : Nat} {os : Array Oper} {sk is : List Nat} {s : List (Nat × V)} {h : List V} {k : St → Option R} {r : R} (hap : apartB ⟨s, h⟩ (A.apart fn rid) = true) (hin : indepB P A os fn rid j i = true)
    (hop : ops P A O fn rid os sk (j :: i :: is) ⟨s, h⟩ k = some r) : ops P A O fn rid os sk (i :: j :: is) ⟨s, h⟩ k = some r := by
  obtain ⟨oj, nj, wj, h1, hoj, hnj, hop1, hwj, hej, hcj⟩ := stp_form hop
  obtain ⟨oi, ni, wi, h2, hoi, hni, hop2, hwi, hei, hci⟩ := stp_form hop1
  simp only [indepB, hoj, hoi, Bool.and_eq_true] at hin
  obtain ⟨⟨⟨⟨⟨⟨d1, d1w⟩, d2, d2w⟩, d3⟩, d4⟩, d5⟩, d6⟩ := hin
  have wr1 : ∀ {i : Nat} {o : Oper} {x : Nat}, x ∈ o.dst.toList → x ∈ wrs A fn rid i o := fun h => List.mem_append.2 (.inl h)
  have wr2 : ∀ {i : Nat} {o : Oper} {x : Nat}, x ∈ gvs A fn rid i o → x ∈ wrs A fn rid i o := fun h => List.mem_append.2 (.inr h)
  -- what j writes, i does not see
  have lj : ∀ d, d ∈ rds P A os fn rid i oi → look d (ins wj s) = look d s := fun d hd => look_ins d wj s fun p hp hpd => by
    rcases hwj p hp with hw | ⟨hw, _⟩ | ⟨_, hw⟩
    · exact (disj_spec d1 (wr1 hw) (hpd ▸ hd)).elim
    · exact (disj_spec d1 (wr2 hw) (hpd ▸ hd)).elim
    · rw [hw, hpd]
  have ljw : ∀ d, d ∈ rdw P A fn rid i oi → (look d (ins wj s)).weak = (look d s).weak := fun d hd => look_ins_weak d wj s fun p hp hpd => by
    rcases hwj p hp with hw | ⟨_, hw⟩ | ⟨_, hw⟩
    · exact (disj_spec d1w hw (hpd ▸ hd)).elim
    · rw [hw, hpd, weak_weak]
    · rw [hw, hpd]
  have hwi' : ∀ p ∈ wi, p.1 ∈ oi.dst.toList ∨ (p.1 ∈ gvs A fn rid i oi ∧ p.2 = (look p.1 s).weak) ∨ (grd os oi = some p.1 ∧ p.2 = look p.1 s) := by
    intro p hp
    rcases hwi p hp with hw | ⟨hg, hw⟩ | ⟨hg, hw⟩
    · exact .inl hw
    · exact .inr (.inl ⟨hg, by rw [hw, lj _ (gvs_sub hg)]⟩)
    · exact .inr (.inr ⟨hg, by rw [hw]; exact lj _ (by simp [rds, hg])⟩)
  have li : ∀ d, d ∈ rds P A os fn rid j oj → look d s = look d (ins wi s) := fun d hd => (look_ins d wi s fun p hp hpd => by
    rcases hwi' p hp with hw | ⟨hw, _⟩ | ⟨_, hw⟩
    · exact (disj_spec d2 (wr1 hw) (hpd ▸ hd)).elim
    · exact (disj_spec d2 (wr2 hw) (hpd ▸ hd)).elim
    · rw [hw, hpd]).symm
  have liw : ∀ d, d ∈ rdw P A fn rid j oj → (look d s).weak = (look d (ins wi s)).weak := fun d hd => (look_ins_weak d wi s fun p hp hpd => by
    rcases hwi' p hp with hw | ⟨_, hw⟩ | ⟨_, hw⟩
    · exact (disj_spec d2w hw (hpd ▸ hd)).elim
    · rw [hw, hpd, weak_weak]
    · rw [hw, hpd]).symm
  have sj : ∀ x, grdI oi = some x → isIn x nj = false := by
    intro x hx
    rcases hnj with rfl | rfl
    · rfl
    · rw [hx] at d4
      simp only [Bool.not_eq_true'] at d4
      have hne := Nat.ne_of_beq_eq_false d4
      rw [Bool.eq_false_iff]
      intro hh
      have := isIn_iff.1 hh
      simp only [List.mem_singleton] at this
      exact hne this
  have si : ∀ x, grdI oj = some x → isIn x ni = false := by
    intro x hx
    rcases hni with rfl | rfl
    · rfl
    · rw [hx] at d5
      simp only [Bool.not_eq_true'] at d5
      have hne := Nat.ne_of_beq_eq_false d5
      rw [Bool.eq_false_iff]
      intro hh
      have := isIn_iff.1 hh
      simp only [List.mem_singleton] at this
      exact hne this
  -- i's step told from s
  have hci' : CFE (StE P A O os fn rid i oi (nj ++ sk) (ins wj s) ni wi) s (cls P A fn rid i oi) h1 h2 ∨ CFE (StE P A O os fn rid i oi (nj ++ sk) (ins wj s) ni wi) s .n h1 h2 := by
    rcases hci with hci | hci
    · left
      revert hci
      have hh : ∀ sl, A.home fn rid i = some sl → look sl (ins wj s) = look sl s := fun sl hsl => lj sl (by simp [rds, hsl])
      generalize hcc : cls P A fn rid i oi = c
      have hcl : (∀ sl, c = .tk sl → A.home fn rid i = some sl) ∧ (∀ sl, c = .hid sl → A.home fn rid i = some sl) ∧ (∀ sl, c = .ld (some sl) → A.home fn rid i = some sl) := by
        subst hcc
        unfold cls
        refine ⟨fun sl hsl => ?_, fun sl hsl => ?_, fun sl hsl => ?_⟩ <;> (split at hsl <;> first | (cases hsl; done) | (split at hsl <;> first | (cases hsl; done) | (split at hsl <;> first | (cases hsl; assumption) | (cases hsl; done) | (split at hsl <;> cases hsl)) | (cases hsl; assumption) | (injection hsl)))
      cases c with
      | n => exact id
      | ro => exact id
      | ld home => exact fun hh' => ⟨hh'.1, hh'.2.1, fun sl hsl => by
          obtain ⟨id, p, t, y, y', a, b⟩ := hh'.2.2 sl hsl
          subst hsl
          exact ⟨id, p, t, y, y', by rw [← hh sl (hcl.2.2 sl rfl)]; exact a, b⟩⟩
      | tk sl => exact fun ⟨id, p, t, y, y', a, b⟩ => ⟨id, p, t, y, y', by rw [← hh sl (hcl.1 sl rfl)]; exact a, b⟩
      | hid sl => exact fun ⟨id, p, t, y, a, b⟩ => ⟨id, p, t, y, by rw [← hh sl (hcl.2.1 sl rfl)]; exact a, b⟩
      | al => exact id
      | wr => exact id
    · exact .inr hci
  obtain ⟨h1', e1, e2⟩ := heap_swap hap hej hei hcj hci' d6
  rw [e1 R k (j :: is) sk s (same_of lj ljw (fun x hx => by rw [isIn_append, sj x hx]; rfl)),
    e2 R k is (ni ++ sk) (ins wi s) (same_of li liw (fun x hx => by rw [isIn_append, si x hx]; rfl)),
    ins_comm wj wi s (fun p hp q hq => ?_)]
  · rw [ops_sk is _ (ni ++ (nj ++ sk)) _ (fun x => by simp only [isIn_append]; cases isIn x nj <;> cases isIn x ni <;> rfl)]
    exact hop2
  · by_cases hpq : p.1 = q.1
    · have hpw : p.1 ∈ wrs A fn rid j oj ∨ (grd os oj = some p.1 ∧ p.2 = look p.1 s) := by
        rcases hwj p hp with hw | ⟨hw, _⟩ | hw
        · exact .inl (wr1 hw)
        · exact .inl (wr2 hw)
        · exact .inr hw
      have hqw : q.1 ∈ wrs A fn rid i oi ∨ (grd os oi = some q.1 ∧ q.2 = look q.1 s) := by
        rcases hwi' q hq with hw | ⟨hw, _⟩ | hw
        · exact .inl (wr1 hw)
        · exact .inl (wr2 hw)
        · exact .inr hw
      rcases hpw with hw | ⟨hg, hw⟩
      · rcases hqw with hw2 | ⟨hg2, hw2⟩
        · exact (disj_spec d3 hw (hpq ▸ hw2)).elim
        · exact (disj_spec d1 hw (by simp [rds, hpq, hg2])).elim
      · rcases hqw with hw2 | ⟨hg2, hw2⟩
        · exact (disj_spec d2 hw2 (by simp [rds, ← hpq, hg])).elim
        · right
          obtain ⟨a, b⟩ := p; obtain ⟨c, d⟩ := q
          simp only at *
          subst hpq; rw [hw, hw2]
    · exact .inl hpq

end
end AM
end Go.Proofs.YtmjocdbdbofcbaaDoor
end

section
set_option linter.unusedVariables false
set_option linter.unusedSimpArgs false
namespace Go.Proofs.YtmjocdbdbofcbaaDoor
namespace AM
open Go

section
variable {P : Program} {A : Ann} {O : Orc}

theorem Same.refl {os : Array Oper} {fn : FuncId} {rid i : Nat} {o : Oper} {sk : List Nat} {s : List (Nat × V)} : Same P A os fn rid i o sk sk s s :=
  ⟨⟨fun _ x _ t h h2 => ev_h s h h2 t x, fun _ x _ t h h2 => by rw [ev_h s h h2 t x]⟩, fun _ _ => rfl, fun _ _ => rfl, fun _ _ => rfl⟩

theorem bubble {R : Type} {fn : FuncId} {rid i : Nat} {os : Array Oper} {post : List Nat} {k : St → Option R} {r : R} (hw : ∀ i o, os[i]? = some o → disj (wrs A fn rid i o) (apSl (A.apart fn rid)) = true) :
    ∀ (pre sk : List Nat) (s : List (Nat × V)) (h : List V), apartB ⟨s, h⟩ (A.apart fn rid) = true → (∀ j ∈ pre, indepB P A os fn rid j i = true) →
    ops P A O fn rid os sk (pre ++ i :: post) ⟨s, h⟩ k = some r → ops P A O fn rid os sk (i :: (pre ++ post)) ⟨s, h⟩ k = some r := by
  intro pre
  induction pre with
  | nil => intro sk s h _ _ hop; exact hop
  | cons j pre ih =>
    intro sk s h hap hin hop
    obtain ⟨o, nsk, ws, h', ho, _, hop1, hws, he, _⟩ := stp_form hop
    have hap' : apartB ⟨ins ws s, h'⟩ (A.apart fn rid) = true := apart_keep (fun d hd => look_ins d ws s fun p hp hpd => by
      rcases hws p hp with hh | ⟨hh, _⟩ | ⟨_, hh⟩
      · exact (disj_spec (hw j o ho) (List.mem_append.2 (.inl hh)) (hpd ▸ hd)).elim
      · exact (disj_spec (hw j o ho) (List.mem_append.2 (.inr hh)) (hpd ▸ hd)).elim
      · rw [hh, hpd]) hap
    have := ih _ _ _ hap' (fun x hx => hin x (by simp [hx])) hop1
    have e := he R k (i :: (pre ++ post)) sk s Same.refl
    exact swap hap (hin j (by simp)) (e.trans this)

/-! ### who comes ahead of whom -/
def edgeM (ms : List Nat) (o : Oper) : Nat := o.after.toList.foldl (fun m e => if Region.binds .any e then m ||| (2 ^ e.on) ||| ms.getD e.on 0 else m) 0
def ancM : List Oper → List Nat → List Nat
  | [], ms => ms
  | o :: os, ms => ancM os (ms ++ [edgeM ms o])

theorem edgeM_spec (ms : List Nat) (o : Oper) (j : Nat) (h : (edgeM ms o).testBit j = true) : ∃ e ∈ o.after, Region.binds .any e = true ∧ (e.on = j ∨ (ms.getD e.on 0).testBit j = true) := by
  have key : ∀ (l : List Edge) (m : Nat), (l.foldl (fun m e => if Region.binds .any e then m ||| (2 ^ e.on) ||| ms.getD e.on 0 else m) m).testBit j = true →
      m.testBit j = true ∨ ∃ e ∈ l, Region.binds .any e = true ∧ (e.on = j ∨ (ms.getD e.on 0).testBit j = true) := by
    intro l
    induction l with
    | nil => intro m h; exact .inl h
    | cons e l ih =>
      intro m h
      simp only [List.foldl_cons] at h
      rcases ih _ h with h | ⟨e', he', h⟩
      · split at h
        · rename_i hb
          simp only [Nat.testBit_or, Bool.or_eq_true] at h
          rcases h with (h | h) | h
          · exact .inl h
          · rw [Nat.testBit_two_pow] at h
            exact .inr ⟨e, by simp, hb, .inl (by simpa using h)⟩
          · exact .inr ⟨e, by simp, hb, .inr h⟩
        · exact .inl h
      · exact .inr ⟨e', by simp [he'], h⟩
  rcases key _ _ h with h | ⟨e, he, h⟩
  · simp at h
  · exact ⟨e, Array.mem_toList_iff.1 he, h⟩

/-- the check of a region -/
def regChk (P : Program) (A : Ann) (fn : FuncId) (rid : Nat) (os : Array Oper) : Bool :=
  let M := ancM os.toList []
  (List.range os.size).all fun i => match os[i]? with
    | none => false
    | some o => Nat.beq (M.getD i 0) (edgeM M o) && (o.after.all fun e => !Region.binds .any e || Nat.blt e.on i) && disj (wrs A fn rid i o) (apSl (A.apart fn rid)) &&
      (List.range i).all fun j => (M.getD i 0).testBit j || indepB P A os fn rid j i

structure RegOk (P : Program) (A : Ann) (fn : FuncId) (rid : Nat) (os : Array Oper) (M : List Nat) : Prop where
  anc : ∀ i o, os[i]? = some o → M.getD i 0 = edgeM M o
  back : ∀ i o, os[i]? = some o → ∀ e ∈ o.after, Region.binds .any e = true → e.on < i
  ap : ∀ i o, os[i]? = some o → disj (wrs A fn rid i o) (apSl (A.apart fn rid)) = true
  ind : ∀ i j, i < os.size → j < i → (M.getD i 0).testBit j = true ∨ indepB P A os fn rid j i = true

theorem regChk_ok {fn : FuncId} {rid : Nat} {os : Array Oper} (h : regChk P A fn rid os = true) : RegOk P A fn rid os (ancM os.toList []) := by
  simp only [regChk, List.all_eq_true, List.mem_range] at h
  have hi : ∀ i o, os[i]? = some o → i < os.size := fun i o ho => (Array.getElem?_eq_some_iff.1 ho).1
  have key : ∀ i o, os[i]? = some o → Nat.beq ((ancM os.toList []).getD i 0) (edgeM (ancM os.toList []) o) = true ∧ (∀ e ∈ o.after, Region.binds .any e = true → e.on < i) ∧ disj (wrs A fn rid i o) (apSl (A.apart fn rid)) = true ∧
      ∀ j, j < i → ((ancM os.toList []).getD i 0).testBit j = true ∨ indepB P A os fn rid j i = true := by
    intro i o ho
    have := h i (hi i o ho)
    rw [ho] at this
    simp only [Bool.and_eq_true, List.all_eq_true, List.mem_range, Bool.or_eq_true] at this
    obtain ⟨⟨⟨a, b⟩, c⟩, d⟩ := this
    refine ⟨a, fun e he hb => ?_, c, d⟩
    rw [Array.all_eq_true_iff_forall_mem] at b
    have := b e he
    rw [hb] at this
    simp only [Bool.not_true, Bool.false_or] at this
    exact Nat.le_of_ble_eq_true this
  refine ⟨fun i o ho => Nat.eq_of_beq_eq_true (key i o ho).1, fun i o ho => (key i o ho).2.1, fun i o ho => (key i o ho).2.2.1, fun i j hi hj => ?_⟩
  exact (key i os[i] (Array.getElem?_eq_getElem hi)).2.2.2 j hj

/-- what is listed is listed with what comes ahead of it -/
def Down (os : Array Oper) (listed : Array Bool) : Prop := ∀ i o, os[i]? = some o → listed.getD i true = true → ∀ e ∈ o.after, Region.binds .any e = true → listed.getD e.on false = true

theorem anc_listed {fn : FuncId} {rid : Nat} {os : Array Oper} {M : List Nat} {listed : Array Bool} (K : RegOk P A fn rid os M) (hsz : listed.size = os.size) (D : Down os listed) : ∀ (n i : Nat) (o : Oper), i ≤ n → os[i]? = some o →
    (∀ e ∈ o.after, Region.binds .any e = true → listed.getD e.on false = true) → ∀ j, (M.getD i 0).testBit j = true → listed.getD j false = true := by
  intro n
  induction n with
  | zero =>
    intro i o hi ho he j hj
    rw [K.anc i o ho] at hj
    obtain ⟨e, he', hb, h⟩ := edgeM_spec M o j hj
    have := K.back i o ho e he' hb
    omega
  | succ n ih =>
    intro i o hi ho he j hj
    rw [K.anc i o ho] at hj
    obtain ⟨e, he', hb, h⟩ := edgeM_spec M o j hj
    have hl := he e he' hb
    rcases h with h | h
    · subst h; exact hl
    · have hlt := K.back i o ho e he' hb
      have hsz' : e.on < os.size := by have := (Array.getElem?_eq_some_iff.1 ho).1; omega
      refine ih e.on os[e.on] (by omega) (Array.getElem?_eq_getElem hsz') (D e.on _ (Array.getElem?_eq_getElem hsz') ?_) j h
      have hlt2 : e.on < listed.size := by omega
      rw [Array.getD_eq_getD_getElem?, Array.getElem?_eq_getElem hlt2] at hl ⊢
      exact hl

def rem (n : Nat) (listed : Array Bool) : List Nat := (List.range n).filter fun i => !listed.getD i true

theorem rem_split {n i : Nat} {listed : Array Bool} (hi : i < n) (hsz : listed.size = n) (hn : listed.getD i true = false) :
    ∃ pre post, rem n listed = pre ++ i :: post ∧ rem n (listed.setIfInBounds i true) = pre ++ post ∧ ∀ j ∈ pre, j < i ∧ listed.getD j true = false := by
  have hr : List.range n = List.range i ++ i :: (List.range' (i + 1) (n - i - 1)) := by
    rw [List.range_eq_range', List.range_eq_range']
    have : n = i + (1 + (n - i - 1)) := by omega
    conv => lhs; rw [this]
    rw [← List.range'_append_1, Nat.zero_add, ← List.range'_append_1]
    rfl
  have hset : ∀ j, j ≠ i → (listed.setIfInBounds i true).getD j true = listed.getD j true := fun j hj => getD_set_ne true (Ne.symm hj)
  have hself : (listed.setIfInBounds i true).getD i true = true := by
    rw [Array.getD_eq_getD_getElem?, Array.getElem?_setIfInBounds]; simp; split <;> rfl
  refine ⟨(List.range i).filter fun j => !listed.getD j true, (List.range' (i + 1) (n - i - 1)).filter fun j => !listed.getD j true, ?_, ?_, ?_⟩
  · unfold rem
    rw [hr, List.filter_append, List.filter_cons, hn]; rfl
  · unfold rem
    rw [hr, List.filter_append, List.filter_cons, hself]
    simp only [Bool.not_true, Bool.false_eq_true, if_false]
    congr 1
    · refine List.filter_congr fun j hj => ?_
      rw [hset j (by simp at hj; omega)]
    · refine List.filter_congr fun j hj => ?_
      rw [hset j (by simp at hj; omega)]
  · intro j hj
    simp only [List.mem_filter, List.mem_range, Bool.not_eq_true'] at hj
    exact hj

theorem lin_ops {R : Type} {fn : FuncId} {rid : Nat} {os : Array Oper} {M : List Nat} {k : St → Option R} {r : R} (K : RegOk P A fn rid os M) : ∀ (fuel t : Nat) (listed : Array Bool) (sk : List Nat) (s : List (Nat × V)) (h : List V), listed.size = os.size → Down os listed →
    (rem os.size listed).length ≤ fuel → apartB ⟨s, h⟩ (A.apart fn rid) = true → ops P A O fn rid os sk (rem os.size listed) ⟨s, h⟩ k = some r → ops P A O fn rid os sk (Region.linearise.go .any os fuel t listed []) ⟨s, h⟩ k = some r := by
  intro fuel
  induction fuel with
  | zero =>
    intro t listed sk s h hsz D hf hap hop
    have : rem os.size listed = [] := List.eq_nil_of_length_eq_zero (by omega)
    rw [this] at hop
    simpa [Region.linearise.go] using hop
  | succ fuel ih =>
    intro t listed sk s h hsz D hf hap hop
    simp only [Region.linearise.go]
    change ops P A O fn rid os sk (match (Region.ready .any os listed)[t % (Region.ready .any os listed).length]? with
      | some i => Region.linearise.go .any os fuel (t / (Region.ready .any os listed).length) (listed.setIfInBounds i true) [i]
      | none => [].reverse) ⟨s, h⟩ k = some r
    cases hi : (Region.ready .any os listed)[t % (Region.ready .any os listed).length]? with
    | none =>
      have hnil : Region.ready .any os listed = [] := by
        cases hr : Region.ready .any os listed with
        | nil => rfl
        | cons x xs =>
          rw [hr] at hi
          have hlt : t % (x :: xs).length < (x :: xs).length := Nat.mod_lt _ (by simp)
          rw [List.getElem?_eq_getElem hlt] at hi
          cases hi
      -- nothing is left
      have : rem os.size listed = [] := by
        cases hr : rem os.size listed with
        | nil => rfl
        | cons x xs =>
          exfalso
          have hx : x ∈ rem os.size listed := by rw [hr]; simp
          have hmin : ∀ y ∈ rem os.size listed, x ≤ y := by
            have hp : (rem os.size listed).Pairwise (· < ·) := List.Pairwise.filter _ List.pairwise_lt_range
            rw [hr] at hp
            intro y hy
            rw [hr] at hy
            rcases List.mem_cons.1 hy with rfl | hy
            · exact Nat.le_refl _
            · exact Nat.le_of_lt (List.rel_of_pairwise_cons hp hy)
          have hx' := hx
          simp only [rem, List.mem_filter, List.mem_range, Bool.not_eq_true'] at hx'
          have : x ∈ Region.ready .any os listed := by
            rw [mem_ready]
            refine ⟨hx'.2, os[x], Array.getElem?_eq_getElem hx'.1, fun e he hb => ?_⟩
            have hlt := K.back x os[x] (Array.getElem?_eq_getElem hx'.1) e he hb
            rw [← Bool.not_eq_false]
            intro hf
            have : e.on ∈ rem os.size listed := by
              simp only [rem, List.mem_filter, List.mem_range, Bool.not_eq_true']
              refine ⟨by omega, ?_⟩
              have hlt2 : e.on < listed.size := by omega
              rw [Array.getD_eq_getD_getElem?, Array.getElem?_eq_getElem hlt2] at hf ⊢
              exact hf
            have := hmin _ this
            omega
          rw [hnil] at this; cases this
      rw [this] at hop
      simpa using hop
    | some i =>
      have hm := List.mem_of_getElem? hi
      rw [mem_ready] at hm
      obtain ⟨hn, o, ho, hrd⟩ := hm
      have hlt : i < os.size := (Array.getElem?_eq_some_iff.1 ho).1
      obtain ⟨pre, post, e1, e2, hpre⟩ := rem_split hlt hsz hn
      simp only []
      rw [linearise_go_acc, List.reverse_singleton, List.singleton_append]
      rw [e1] at hop hf
      have hb := bubble (post := post) K.ap pre sk s h hap (fun j hj => by
        obtain ⟨hj1, hj2⟩ := hpre j hj
        rcases K.ind i j hlt hj1 with hh | hh
        · have := anc_listed K hsz D i i o (Nat.le_refl _) ho hrd j hh
          have hlt2 : j < listed.size := by omega
          rw [Array.getD_eq_getD_getElem?, Array.getElem?_eq_getElem hlt2] at this hj2
          simp only [Option.getD_some] at this hj2
          rw [this] at hj2; cases hj2
        · exact hh) hop
      obtain ⟨o', nsk, ws, h', ho', _, hop1, hws, he, _⟩ := stp_form hb
      have hap' : apartB ⟨ins ws s, h'⟩ (A.apart fn rid) = true := apart_keep (fun d hd => look_ins d ws s fun p hp hpd => by
        rcases hws p hp with hh | ⟨hh, _⟩ | ⟨_, hh⟩
        · exact (disj_spec (K.ap i o' ho') (List.mem_append.2 (.inl hh)) (hpd ▸ hd)).elim
        · exact (disj_spec (K.ap i o' ho') (List.mem_append.2 (.inr hh)) (hpd ▸ hd)).elim
        · rw [hh, hpd]) hap
      rw [he R k _ sk s Same.refl]
      refine ih _ _ _ _ _ (by simpa using hsz) ?_ (by rw [e2]; simp at hf ⊢; omega) hap' (by rw [e2]; exact hop1)
      -- still closed
      intro x ox hox hx e hee hbb
      have up : ∀ y, listed.getD y false = true → (listed.setIfInBounds i true).getD y false = true := by
        intro y hy
        by_cases hyi : i = y
        · subst hyi
          have hlt2 : i < listed.size := by omega
          rw [Array.getD_eq_getD_getElem?, Array.getElem?_setIfInBounds]; simp [hlt2]
        · rw [getD_set_ne false hyi]; exact hy
      by_cases hxi : i = x
      · subst hxi
        rw [ho] at hox; cases hox
        exact up _ (hrd e hee hbb)
      · rw [getD_set_ne true hxi] at hx
        exact up _ (D x ox hox hx e hee hbb)

theorem schedule_ops {R : Type} {fn : FuncId} {rid : Nat} {os : Array Oper} {k : St → Option R} {r : R} (hc : regChk P A fn rid os = true) {s : List (Nat × V)} {h : List V} (hap : apartB ⟨s, h⟩ (A.apart fn rid) = true)
    (hop : ops P A O fn rid os [] (List.range os.size) ⟨s, h⟩ k = some r) (t : Nat) : ops P A O fn rid os [] (Region.schedule true os t) ⟨s, h⟩ k = some r := by
  have e : rem os.size (Array.replicate os.size false) = List.range os.size := by
    unfold rem
    rw [List.filter_eq_self]
    intro i hi
    simp only [List.mem_range] at hi
    rw [Array.getD_eq_getD_getElem?, Array.getElem?_replicate]; simp [hi]
  simp only [Region.schedule, Bool.true_or, if_true, Region.linearise]
  refine lin_ops (regChk_ok hc) os.size t (Array.replicate os.size false) [] s h (by simp) (fun i o ho hl => ?_) (by rw [e]; simp) hap (by rw [e]; exact hop)
  have hlt : i < os.size := (Array.getElem?_eq_some_iff.1 ho).1
  rw [Array.getD_eq_getD_getElem?, Array.getElem?_replicate] at hl
  simp [hlt] at hl

end
end AM
end Go.Proofs.YtmjocdbdbofcbaaDoor
end

section
set_option linter.unusedVariables false
set_option linter.unusedSimpArgs false
namespace Go.Proofs.YtmjocdbdbofcbaaDoor
namespace AM
open Go

section
variable {P : Program} {A : Ann} {O : Orc} {g g' : G} {w w' : World}

/-- the boxes from n on are gone: their blocks are read alone -/
def G.trunc (g : G) (n : Nat) (w : World) : G := { β := g.β.take n, ty := g.ty.take n, H := g.H, ro := fun b => if some b ∈ g.β.drop n then boxSize w b else g.ro b, lro := fun b => if some b ∈ g.β.drop n then boxSize w b else g.lro b }

theorem mem_drop_box {h : List V} (B : BX P g w h) (W : WG g w) {n b : Nat} (hm : some b ∈ g.β.drop n) : ∃ i, n ≤ i ∧ g.β[i]? = some (some b) := by
  obtain ⟨k, hk, hkk⟩ := List.mem_iff_getElem.1 hm
  refine ⟨n + k, by omega, ?_⟩
  rw [← List.getElem?_drop, List.getElem?_eq_getElem hk, hkk]

theorem drop_zero {h : List V} (B : BX P g w h) (W : WG g w) {n b : Nat} (hm : some b ∈ g.β.drop n) : b < w.heap.size ∧ g.ro b = 0 ∧ g.lro b = 0 ∧ g.H b = none ∧ some b ∈ g.β := by
  obtain ⟨i, _, hi⟩ := mem_drop_box B W hm
  obtain ⟨a, b, c, d⟩ := W.box i _ hi
  exact ⟨a, b, c, d, List.mem_of_getElem? hi⟩

theorem trunc_ro {h : List V} (B : BX P g w h) (W : WG g w) (n b : Nat) : g.ro b ≤ (g.trunc n w).ro b := by
  simp only [G.trunc]; split
  · rename_i hm; have := (drop_zero B W hm).2.1; omega
  · exact Nat.le_refl _
theorem trunc_lro {h : List V} (B : BX P g w h) (W : WG g w) (n b : Nat) : g.lro b ≤ (g.trunc n w).lro b := by
  simp only [G.trunc]; split
  · rename_i hm; have := (drop_zero B W hm).2.2.1; omega
  · exact Nat.le_refl _
theorem trunc_lim {h : List V} (B : BX P g w h) (W : WG g w) (n : Nat) (f : Fl) (b : Nat) : g.lim f b ≤ (g.trunc n w).lim f b := by
  cases f <;> first | exact trunc_ro B W n b | exact trunc_lro B W n b

theorem take_get {α : Type} {l : List α} {n i : Nat} {a : α} : (l.take n)[i]? = some a ↔ i < n ∧ l[i]? = some a := by
  rw [List.getElem?_take]
  constructor
  · intro h
    split at h
    · exact ⟨by assumption, h⟩
    · cases h
  · rintro ⟨h1, h2⟩; rw [if_pos h1]; exact h2

theorem underL_get {n i : Nat} {vs : List V} {v : V} (h : underL n vs = true) (hv : vs[i]? = some v) : v.under n = true := by
  induction vs generalizing i with
  | nil => simp at hv
  | cons x vs ih =>
    simp only [underL, Bool.and_eq_true] at h
    cases i with
    | zero => simp at hv; subst hv; exact h.1
    | succ i => exact ih h.2 (by simpa using hv)

theorem LR.truncTo {h : List V} (B : BX P g w h) (W : WG g w) (n : Nat) {v : V} {c : Value} (hv : LR P g w v c) : v.under n = true → LR P (g.trunc n w) w v c := by
  induction hv with
  | bool b => intro _; exact .bool b
  | int k n => intro _; exact .int k n
  | str s => intro _; exact .str s
  | nilp => intro _; exact .nilp
  | nilf => intro _; exact .nilf
  | nili => intro _; exact .nili
  | undef c hc => intro _; exact .undef c hc
  | nil e => intro _; exact .nil e
  | emp e f a cap hf => intro _; exact .emp e f a cap hf
  | lst e f xs b off cap cs hf ht hcl hn hc hl hb hr hcap ih =>
    intro hu
    have hxs : underL n xs = true := by
      by_cases hff : f = .lent
      · subst hff; simpa [V.under] using hu
      · exact clean_underL n xs (hcl hff)
    rw [underL_fl, List.all_eq_true] at hxs
    exact .lst e f xs b off cap cs hf ht hcl hn hc (fun j x c h1 h2 => ih j x c h1 h2 (hxs x (List.mem_of_getElem? h1))) hb (Nat.le_trans hr (trunc_lim B W n f b)) hcap
  | win id p off len e bt o n' b cap a1 a2 a3 a4 a5 a6 =>
    intro hu
    have hlt : id < n := by simpa [V.under] using hu
    exact .win id p off len e bt o n' b cap (take_get.2 ⟨hlt, a1⟩) a2 a3 (take_get.2 ⟨hlt, a4⟩) a5 a6
  | win0 id p off e bt o n' a cap a1 a2 a3 =>
    intro hu
    have hlt : id < n := by simpa [V.under] using hu
    exact .win0 id p off e bt o n' a cap (take_get.2 ⟨hlt, a1⟩) a2 a3
  | ref id p t bt o b h1 h2 h3 =>
    intro hu
    have hlt : id < n := by simpa [V.under] using hu
    exact .ref id p t bt o b (take_get.2 ⟨hlt, h1⟩) h2 (take_get.2 ⟨hlt, h3⟩)
  | rop t x b off cs ht hn hc hl hb hr ih =>
    intro hu
    have hx : x.under n = true := by simpa [V.under] using hu
    rw [under_fl, List.all_eq_true] at hx
    exact .rop t x b off cs ht hn hc (fun j y c h1 h2 => ih j y c h1 h2 (hx y (List.mem_of_getElem? h1))) hb (Nat.le_trans hr (trunc_lro B W n b))
  | clo f vs cs hn hl ih =>
    intro hu
    have hx : underL n vs = true := by simpa [V.under] using hu
    exact .clo f vs cs hn fun j x c h1 h2 => ih j x c h1 h2 (underL_get hx h1)

theorem AR.truncTo {h : List V} (B : BX P g w h) (W : WG g w) (n : Nat) {v : V} {c : Value} (hv : AR P g w v c) (hu : v.under n = true) : AR P (g.trunc n w) w v c := by
  cases hv with
  | leaf hl h => exact .leaf hl (h.truncTo B W n hu)
  | agg ht hn hl =>
    rw [under_fl, List.all_eq_true] at hu
    exact .agg ht hn fun j x c a b => (hl j x c a b).truncTo B W n (hu x (by simp only [V.fl]; exact List.mem_of_getElem? a))

theorem VR.truncTo {h : List V} (B : BX P g w h) (W : WG g w) (n : Nat) {v : V} {c : Value} (hv : VR P g w v c) (hu : v.under n = true) : VR P (g.trunc n w) w v c := by
  cases hv with
  | val h => exact .val (h.truncTo B W n hu)
  | dead c => exact .dead c
  | tup h1 h2 h3 => exact .tup h1 h2 fun j x c a b => (h3 j x c a b).truncTo B W n (underL_get (by simpa [V.under] using hu) a)

theorem Own.truncTo {h : List V} (B : BX P g w h) (W : WG g w) (n : Nat) {e : TypeId} {m : Nat} {c : Value} {l : Nat ⊕ (Nat × Nat)} (ho : Own P g w e m c l) : Own P (g.trunc n w) w e m c l := by
  rcases ho with h | ⟨b, off, len, cap, cs, e', fz, h1, h2, h3, h4, h5, h6, h7, h8⟩
  · exact .inl h
  · have hnd : some b ∉ g.β.drop n := fun hm => h3 (List.mem_of_mem_drop hm)
    exact .inr ⟨b, off, len, cap, cs, e', fz, h1, h2, fun hm => h3 (List.mem_of_mem_take hm), h4, h5, h6, by simp only [G.trunc, if_neg hnd]; exact h7, by simp only [G.trunc, if_neg hnd]; exact h8⟩

theorem WG.trunc {h : List V} (B : BX P g w h) (W : WG g w) (n : Nat) : WG (g.trunc n w) w := by
  refine ⟨fun b hb => ?_, fun i b hb => ?_, fun b => ?_⟩
  · obtain ⟨h1, h2, h3⟩ := W.fresh b hb
    have hnd : some b ∉ g.β.drop n := fun hm => by have := (drop_zero B W hm).1; omega
    simp only [G.trunc, if_neg hnd]; exact ⟨h1, h2, h3⟩
  · obtain ⟨hlt, hb⟩ := take_get.1 hb
    obtain ⟨h1, h2, h3, h4⟩ := W.box i b hb
    have hnd : some b ∉ g.β.drop n := fun hm => by
      obtain ⟨k, hk, hkk⟩ := mem_drop_box B W hm
      have := B.inj i k b hb hkk
      omega
    simp only [G.trunc, if_neg hnd]; exact ⟨h1, h2, h3, h4⟩
  · simp only [G.trunc]
    split
    · exact Nat.le_refl _
    · exact W.le b

theorem BX.trunc {h : List V} (B : BX P g w h) (W : WG g w) (n : Nat) : BX P (g.trunc n w) w (h.take n) := by
  refine ⟨by simp [G.trunc, B.len], by simp [G.trunc, B.tys], fun i j b h1 h2 => B.inj i j b (take_get.1 h1).2 (take_get.1 h2).2, fun i v bt h1 h2 => B.has i v bt (take_get.1 h1).2 (take_get.1 h2).2,
    fun i v h1 h2 => B.void i v (take_get.1 h1).2 (take_get.1 h2).2, fun i v h1 => B.low i v (take_get.1 h1).2, fun i v b h1 h2 => ?_⟩
  obtain ⟨hlt, h1⟩ := take_get.1 h1
  obtain ⟨_, h2⟩ := take_get.1 h2
  obtain ⟨cs, e, fz, c1, c2, c3, c4⟩ := B.cells i v b h1 h2
  refine ⟨cs, e, fz, c1, c2, c3, fun j x hx => ?_⟩
  obtain ⟨c, d1, d2, d3⟩ := c4 j x hx
  have hu := under_mono (n := i + 1) (m := n) (by omega) v (B.low i v h1)
  rw [under_fl, List.all_eq_true] at hu
  exact ⟨c, d1, d2.truncTo B W n (hu x (List.mem_of_getElem? hx)), fun e xs hh => (d3 e xs hh).truncTo B W n⟩

theorem Ext.trunc {g0 : G} {w0 : World} {h0 h : List V} (E : Ext g0 w0 g w) (B0 : BX P g0 w0 h0) (B : BX P g w h) (W : WG g w) : Ext g0 w0 (g.trunc h0.length w) w := by
  obtain ⟨lb, hlb⟩ := E.beta
  obtain ⟨lt, hlt⟩ := E.typ
  refine ⟨E.os, E.tape, E.out, E.size, fun b hb h1 h2 => ?_, fun b hb => ?_, ⟨[], ?_⟩, ⟨[], ?_⟩, E.bsz⟩
  · obtain ⟨a1, a2, a3, a4, a5⟩ := E.same b hb h1 h2
    have hnd : some b ∉ g.β.drop h0.length := fun hm => a3 (List.mem_of_mem_drop hm)
    exact ⟨a1, a2, fun hm => a3 (List.mem_of_mem_take hm), by simp only [G.trunc, if_neg hnd]; exact a4, by simp only [G.trunc, if_neg hnd]; exact a5⟩
  · obtain ⟨a1, a2, a3, a4⟩ := E.keep b hb
    exact ⟨a1, Nat.le_trans a2 (trunc_ro B W _ b), Nat.le_trans a3 (trunc_lro B W _ b), fun h hm => a4 h (List.mem_of_mem_take hm)⟩
  · simp only [G.trunc, hlb, B0.len, List.take_left, List.append_nil]
  · simp only [G.trunc, hlt, B0.tys, List.take_left, List.append_nil]

theorem GlobOk.trunc (FO : FnOk P A) {h : List V} (B : BX P g w h) (W : WG g w) (n : Nat) (Gl : GlobOk P A g w) : GlobOk P A (g.trunc n w) w :=
  fun i t v hi => (Gl i t v hi).truncTo B W n (by simp only [V.under]; exact clean_under n v (FO.glob i t v hi))

/-- fewer slots -/
theorem SR.less {st st' : St} {tm : Array Value} (S : SR P A g w st tm) (hs : ∀ i, st'.get i = st.get i ∨ st'.get i = .undef) (hh : st'.h = st.h) : SR P A g w st' tm := by
  refine ⟨fun i => ?_, fun i e xs hi => ?_, fun i => ?_, by rw [hh]; exact S.box, S.wg, S.glob⟩
  · rcases hs i with h | h
    · rw [h]; exact S.slot i
    · rw [h]; exact .dead _
  · rcases hs i with h | h
    · exact S.own i e xs (by rw [← h]; exact hi)
    · rw [h] at hi; cases hi
  · rcases hs i with h | h
    · rw [h]; exact S.nown i
    · rw [h]; exact .inr rfl

theorem NO.less {Sl : List Nat} {st st' : St} (N : NO Sl st) (hs : ∀ i, st'.get i = st.get i ∨ st'.get i = .undef) : NO Sl st' := by
  intro i e xs hi
  rcases hs i with h | h
  · exact N i e xs (by rw [← h]; exact hi)
  · rw [h] at hi; cases hi

theorem look_drop (l : List Nat) (i : Nat) : ∀ s : List (Nat × V), look i (drop l s) = if isIn i l then .undef else look i s
  | [] => by simp [drop, look]
  | (j, v) :: s => by
    have ih := look_drop l i s
    simp only [drop, look]
    cases hj : isIn j l
    · simp only [cond_false, look]
      cases hji : Nat.beq j i
      · simp only [cond_false]; exact ih
      · have := Nat.eq_of_beq_eq_true hji
        subst this
        simp [hj]
    · simp only [cond_true, ih]
      cases hji : Nat.beq j i
      · simp only [cond_false]
      · have := Nat.eq_of_beq_eq_true hji
        subst this
        simp [hj]

theorem look_hold (l : List Nat) (i : Nat) : ∀ s : List (Nat × V), look i (hold l s) = if isIn i l then look i s else .undef
  | [] => by simp [hold, look]
  | (j, v) :: s => by
    have ih := look_hold l i s
    simp only [hold, look]
    cases hj : isIn j l
    · simp only [cond_false, ih]
      cases hji : Nat.beq j i
      · simp only [cond_false]
      · have := Nat.eq_of_beq_eq_true hji
        subst this
        simp [hj]
    · simp only [cond_true, look]
      cases hji : Nat.beq j i
      · simp only [cond_false]; exact ih
      · have := Nat.eq_of_beq_eq_true hji
        subst this
        simp [hj]

theorem drop_less (st : St) (l : List Nat) (i : Nat) : ({ st with s := drop l st.s } : St).get i = st.get i ∨ ({ st with s := drop l st.s } : St).get i = .undef := by
  simp only [St.get, look_drop]
  split
  · exact .inr rfl
  · exact .inl rfl
theorem hold_less (st : St) (h : List V) (l : List Nat) (i : Nat) : (⟨hold l st.s, h⟩ : St).get i = st.get i ∨ (⟨hold l st.s, h⟩ : St).get i = .undef := by
  simp only [St.get, look_hold]
  split
  · exact .inl rfl
  · exact .inr rfl

theorem SR.trunc (FO : FnOk P A) {st : St} {tm : Array Value} (S : SR P A g w st tm) {n : Nat} {l : List Nat} (hu : underL n (l.map st.get) = true) : SR P A (g.trunc n w) w ⟨hold l st.s, st.h.take n⟩ tm := by
  have lk : ∀ i, (⟨hold l st.s, st.h.take n⟩ : St).get i = .undef ∨ ((⟨hold l st.s, st.h.take n⟩ : St).get i = st.get i ∧ (st.get i).under n = true) := by
    intro i
    simp only [St.get, look_hold]
    split
    · rename_i hi
      refine .inr ⟨rfl, ?_⟩
      have hm : st.get i ∈ l.map st.get := List.mem_map.2 ⟨i, isIn_iff.1 hi, rfl⟩
      obtain ⟨j, hj, he⟩ := List.mem_iff_getElem.1 hm
      exact underL_get hu (by rw [List.getElem?_eq_getElem hj, he]; rfl)
    · exact .inl rfl
  refine ⟨fun i => ?_, fun i e xs hi => ?_, fun i => ?_, S.box.trunc S.wg n, S.wg.trunc S.box n, S.glob.trunc FO S.box S.wg n⟩
  · rcases lk i with h | ⟨h, hu⟩
    · rw [h]; exact .dead _
    · rw [h]; exact (S.slot i).truncTo S.box S.wg n hu
  · rcases lk i with h | ⟨h, _⟩
    · rw [h] at hi; cases hi
    · rw [h] at hi; exact (S.own i e xs hi).truncTo S.box S.wg n
  · rcases lk i with h | ⟨h, _⟩
    · rw [h]; exact .inr rfl
    · rw [h]; exact S.nown i

end
end AM
end Go.Proofs.YtmjocdbdbofcbaaDoor
end

section
set_option linter.unusedVariables false
set_option linter.unusedSimpArgs false
namespace Go.Proofs.YtmjocdbdbofcbaaDoor
namespace AM
open Go

section
variable {P : Program} {A : Ann} {O : Orc} {g g' : G} {w w' : World}

theorem win_cells (L : Lay P) {h : List V} (B : BX P g w h) {id : Nat} {p : List Nat} {off len : Nat} {e : TypeId} {c : Value} {xs : List V} (hw : LR P g w (.win id p off len e) c) (hxs : content h (.win id p off len e) = some xs) :
    (xs = [] ∧ ∃ a cap, c = .slice a 0 cap) ∨ ∃ b o cap cs, c = .slice (some ⟨b, o, none⟩) xs.length cap ∧ g.β[id]? = some (some b) ∧ LRs P g w (flL xs) cs ∧ (∀ (j : Nat) (c : Value), cs[j]? = some c → w.cell? ⟨b, o + j, none⟩ = some c) ∧
      (∀ x ∈ xs, HT P e x) ∧ o + cs.length ≤ boxSize w b ∧ b < w.heap.size ∧ xs.length ≤ cap ∧ (p = [] → (∃ e' n', g.ty[id]? = some (.row e' n')) → o + cap * P.cellsOf e ≤ boxSize w b) := by
  obtain ⟨hsrc, _⟩ := content_sim L B hxs (VR.lf rfl hw)
  simp only [content] at hxs
  obtain ⟨ys, hys, rfl⟩ := Option.map_eq_some_iff.1 hxs
  obtain ⟨v, hv, hi⟩ := Option.bind_eq_some_iff.1 hys
  cases hw with
  | win0 _ _ _ _ bt o n a cap h1 h2 h3 => exact .inl ⟨by rw [List.take_zero], a, cap, rfl⟩
  | win _ _ _ _ _ bt o n b cap h1 h2 h3 h4 h5 h6 =>
    obtain ⟨r1, r2, r3, _⟩ := B.arr L h1 h2 hv hi
    have ht' : ∀ x ∈ (ys.drop off).take len, HT P e x := fun x hx => r2 x (List.mem_of_mem_drop (List.mem_of_mem_take hx))
    obtain ⟨v0, hv0, _⟩ := Option.bind_eq_some_iff.1 hv
    obtain ⟨cs0, e0, fz, c1, c2, c3, c4⟩ := B.cells id v0 b hv0 h4
    have hlen : ((ys.drop off).take len).length = len := by simp; omega
    by_cases h0 : len = 0
    · subst h0
      exact .inl ⟨by rw [List.take_zero], _, _, rfl⟩
    · right
      generalize hc : Value.slice (some ⟨b, o + off * P.cellsOf e, none⟩) len cap = c at hsrc
      generalize hxx : (ys.drop off).take len = xs at hsrc ht' hlen ⊢
      cases hsrc with
      | nil a cap => simp at hlen; omega
      | str s => cases hc
      | cells _ b' off' cap' cs q1 q2 =>
        simp only [Value.slice.injEq, Option.some.injEq, Addr.mk.injEq] at hc
        obtain ⟨⟨rfl, rfl, _⟩, _, rfl⟩ := hc
        have hat : v0.at p = some v := by
          have hv' := hv
          unfold rd at hv'
          rw [hv0] at hv'; exact hv'
        have hset : setItems v ys = v := by
          cases v with
          | row => simp only [V.items, Option.some.injEq] at hi; subst hi; rfl
          | agg => simp only [V.items, Option.some.injEq] at hi; subst hi; rfl
          | _ => rfl
        obtain ⟨_, u2, _⟩ := B.arrUpd L h1 h2 hv0 hat hi (zs := ys) r1 r2 (by rw [hset]; exact V.upd_at_self p hat)
        have hcl : cs.length = len * P.cellsOf e := by rw [q1.1, length_flL_of L xs e fun x hx => HT.size L (ht' x hx), hlen]
        have hbs : boxSize w b = cs0.size := by simp [boxSize, c1]
        refine ⟨b, _, cap, cs, rfl, h4, q1, q2, ht', ?_, lt_of_block c1, by rw [hlen]; exact h5, fun hp hr => ?_⟩
        rotate_left
        · obtain ⟨e', n', hr⟩ := hr
          rw [h1] at hr
          exact h6 hp ⟨e', n', Option.some.inj hr⟩
        rw [hbs, hcl, Nat.add_assoc, ← Nat.add_mul]
        exact Nat.le_trans (Nat.le_trans (Nat.add_le_add_left (Nat.mul_le_mul_right _ h3) o) u2) c2

theorem LR.unmut (L : Lay P) {h : List V} (B : BX P g w h) (W : WG g w) (n : Nat) {v : V} {c : Value} (hv : LR P g w v c) (ho : v.over n = true) (hc : (v.unmut h).norm.clean = true) : LR P (g.trunc n w) w (v.unmut h).norm c := by
  have cl : ∀ {v c}, LR P g w v c → v.clean = true → LR P (g.trunc n w) w v c := fun hv hc => LR.cleanTo (g := g) (g2 := g.trunc n w) (fun b _ => trunc_ro B W n b) hv hc
  have win : ∀ {id p off len e c}, LR P g w (.win id p off len e) c → (V.win id p off len e).over n = true → ((V.win id p off len e).unmut h).norm.clean = true → LR P (g.trunc n w) w ((V.win id p off len e).unmut h).norm c := by
    intro id p off len e c hw ho hc
    simp only [V.unmut] at hc ⊢
    split
    · rename_i xs hxs
      rw [hxs] at hc
      simp only at hc
      split
      · rename_i hcx
        rw [if_pos hcx] at hc
        show LR P (g.trunc n w) w (.lst e .sh (normL xs)) c
        rcases win_cells L B hw hxs with ⟨rfl, a, cap, rfl⟩ | ⟨b, o, cap, cs, rfl, h4, q1, q2, ht, hsz, hb, hcap, _⟩
        · exact .emp e .sh a cap (by simp)
        · have hid : n ≤ id := Nat.le_of_ble_eq_true (by simpa [V.over] using ho)
          have hm : some b ∈ g.β.drop n := by
            refine List.mem_of_getElem? (i := id - n) ?_
            rw [List.getElem?_drop, Nat.add_sub_cancel' hid]; exact h4
          have q1' := LRs.norm ht q1
          have hnl : (normL xs).length = xs.length := by rw [normL_map]; simp
          have := LR.lst (P := P) (g := g.trunc n w) (w := w) e .sh (normL xs) b o cap cs (by simp) (fun x hx => by
              rw [normL_map, List.mem_map] at hx
              obtain ⟨y, hy, rfl⟩ := hx
              exact (ht y hy).norm) (fun _ => cleanL_norm xs hcx) q1'.1 q2 (fun j x c a1 a2 => cl (q1'.2 j x c a1 a2) (clean_flL _ (cleanL_norm xs hcx) x (List.mem_of_getElem? a1))) hb
            (by simp only [G.lim, G.trunc, if_pos hm]; exact hsz) (by rw [hnl]; exact hcap)
          rw [hnl] at this
          exact this
      · rename_i hcx
        rw [if_neg hcx] at hc
        simp [V.norm, V.clean] at hc
    · rename_i hxs
      rw [hxs] at hc
      simp [V.norm, V.clean] at hc
  cases hv with
  | bool b => exact .bool b
  | int k n => exact .int k n
  | str s => exact .str s
  | nilp => exact .nilp
  | nilf => exact .nilf
  | nili => exact .nili
  | undef c hcc => simp [V.unmut, V.norm, V.clean] at hc
  | nil e => exact .emp e .sh none 0 (by simp)
  | emp e f a cap hf => cases f <;> first | exact (hf rfl).elim | exact .emp e _ a cap (by simp)
  | lst e f xs b off cap cs hf ht hcl hn hcs hl hb hro hcap =>
    have share : cleanL xs = true → g.lim f b = g.ro b → LR P (g.trunc n w) w (.lst e .sh xs) (.slice (some ⟨b, off, none⟩) xs.length cap) := fun hcx hlim =>
      .lst e .sh xs b off cap cs (by simp) ht (fun _ => hcx) hn hcs (fun j x c h1 h2 => cl (hl j x c h1 h2) (clean_flL xs hcx x (List.mem_of_getElem? h1))) hb (by rw [hlim] at hro; exact Nat.le_trans hro (trunc_ro B W n b)) hcap
    cases f with
    | nil => exact (hf rfl).elim
    | own => exact share (hcl (by simp)) rfl
    | sh => exact share (hcl (by simp)) rfl
    | lent => simp [V.unmut, V.norm, V.clean] at hc
  | win id p off len e bt o n' b cap h1 h2 h3 h4 h5 h6 =>
    exact win (.win id p off len e bt o n' b cap h1 h2 h3 h4 h5 h6) ho hc
  | win0 id p off e bt o n' a cap h1 h2 h3 =>
    exact win (.win0 id p off e bt o n' a cap h1 h2 h3) ho hc
  | ref id p t bt o b h1 h2 h3 => simp [V.unmut, V.norm, V.clean] at hc
  | rop t x b off cs ht hn hcs hl hb hro => simp [V.unmut, V.norm, V.clean] at hc
  | clo f vs cs hn hl => simp [V.unmut, V.norm, V.clean] at hc

theorem unmutL_map (h : List V) (vs : List V) : unmutL h vs = vs.map (V.unmut h) := by
  induction vs with
  | nil => rfl
  | cons v vs ihv => simp only [unmutL, List.map_cons]; rw [ihv]

theorem HT.unmut (h : List V) {t : TypeId} {v : V} (ht : HT P t v) : HT P t (v.unmut h) := by
  induction ht with
  | scal hk hv ho =>
    rename_i t v
    cases v <;> simp [V.scal] at hv <;> simp only [V.unmut] <;> exact .scal hk rfl ho
  | undef hk => exact .undef hk
  | undefS hk => exact .undefS hk
  | lst hk => rename_i t e f xs; exact .lst hk
  | win hk =>
    simp only [V.unmut]
    split
    · exact .lst hk
    · exact .undefS hk
  | struct hk hl _ ih =>
    rename_i t u fs vs _
    simp only [V.unmut]
    rw [unmutL_map]
    refine .struct hk (by simp [hl]) fun i ft v h1 h2 => ?_
    rw [List.getElem?_map, Option.map_eq_some_iff] at h2
    obtain ⟨v', h2, rfl⟩ := h2
    exact ih i ft v' h1 h2
  | array hk hl _ ih =>
    rename_i t u n e vs _
    simp only [V.unmut]
    rw [unmutL_map]
    refine .array hk (by simp [hl]) fun v hv => ?_
    rw [List.mem_map] at hv
    obtain ⟨v', hv, rfl⟩ := hv
    exact ih v' hv

theorem unmut_leafy (h : List V) {v : V} (hv : v.leafy = true) : (v.unmut h).leafy = true := by
  cases v with
  | agg => simp [V.leafy] at hv
  | row => simp [V.leafy] at hv
  | tup => simp [V.leafy] at hv
  | win id p off len e => simp only [V.unmut]; split <;> rfl
  | _ => rfl

theorem HT.fl_unmut (h : List V) {t : TypeId} {v : V} (ht : HT P t v) : (v.unmut h).fl = v.fl.map (V.unmut h) := by
  have leaf : ∀ {v : V}, v.leafy = true → (v.unmut h).fl = v.fl.map (V.unmut h) := by
    intro v hv
    rw [fl_leafy hv, fl_leafy (unmut_leafy h hv)]; rfl
  have key : ∀ vs : List V, (∀ v ∈ vs, (v.unmut h).fl = v.fl.map (V.unmut h)) → flL (unmutL h vs) = (flL vs).map (V.unmut h) := by
    intro vs
    induction vs with
    | nil => intro _; rfl
    | cons v vs ih =>
      intro hh
      simp only [unmutL, flL, List.map_append]
      rw [hh v (by simp), ih fun v hv => hh v (by simp [hv])]
  induction ht with
  | scal hk hv ho => rename_i t v; exact leaf (by cases v <;> simp [V.scal] at hv <;> rfl)
  | undef => exact leaf rfl
  | undefS => exact leaf rfl
  | lst => exact leaf rfl
  | win => exact leaf rfl
  | struct hk hl _ ih =>
    rename_i t u fs vs _
    simp only [V.unmut, V.fl]
    refine key vs fun v hv => ?_
    obtain ⟨i, hi, rfl⟩ := List.mem_iff_getElem.1 hv
    exact ih i (fs[i]'(by omega)) vs[i] (List.getElem?_eq_getElem _) (List.getElem?_eq_getElem _)
  | array hk hl _ ih =>
    simp only [V.unmut, V.fl]
    exact key _ ih

mutual
theorem over_fl (n : Nat) : ∀ v : V, v.over n = true → ∀ x ∈ v.fl, x.over n = true
  | .agg t fs, h, x, hx => by simp only [V.fl] at hx; exact over_flL n fs (by simpa [V.over] using h) x hx
  | .row t fs, h, x, hx => by simp only [V.fl] at hx; exact over_flL n fs (by simpa [V.over] using h) x hx
  | .tup fs, h, x, hx => by simp [V.fl] at hx; subst hx; exact h
  | .lst e f xs, h, x, hx => by simp [V.fl] at hx; subst hx; exact h
  | .bool _, h, x, hx => by simp [V.fl] at hx; subst hx; exact h
  | .int _ _, h, x, hx => by simp [V.fl] at hx; subst hx; exact h
  | .str _, h, x, hx => by simp [V.fl] at hx; subst hx; exact h
  | .win _ _ _ _ _, h, x, hx => by simp [V.fl] at hx; subst hx; exact h
  | .ref _ _ _, h, x, hx => by simp [V.fl] at hx; subst hx; exact h
  | .rop _ _, h, x, hx => by simp [V.fl] at hx; subst hx; exact h
  | .nilp, h, x, hx => by simp [V.fl] at hx; subst hx; exact h
  | .clo _ _, h, x, hx => by simp [V.fl] at hx; subst hx; exact h
  | .nilf, h, x, hx => by simp [V.fl] at hx; subst hx; exact h
  | .nili, h, x, hx => by simp [V.fl] at hx; subst hx; exact h
  | .undef, h, x, hx => by simp [V.fl] at hx; subst hx; exact h
theorem over_flL (n : Nat) : ∀ vs : List V, overL n vs = true → ∀ x ∈ flL vs, x.over n = true
  | [], _, x, hx => by simp [flL] at hx
  | v :: vs, h, x, hx => by
    simp only [overL, Bool.and_eq_true] at h
    simp only [flL, List.mem_append] at hx
    rcases hx with hx | hx
    · exact over_fl n v h.1 x hx
    · exact over_flL n vs h.2 x hx
end

theorem overL_get {n i : Nat} {vs : List V} {v : V} (h : overL n vs = true) (hv : vs[i]? = some v) : v.over n = true := by
  induction vs generalizing i with
  | nil => simp at hv
  | cons x vs ih =>
    simp only [overL, Bool.and_eq_true] at h
    cases i with
    | zero => simp at hv; subst hv; exact h.1
    | succ i => exact ih h.2 (by simpa using hv)

theorem cleanL_get {i : Nat} {vs : List V} {v : V} (h : cleanL vs = true) (hv : vs[i]? = some v) : v.clean = true := by
  rw [cleanL_all, List.all_eq_true] at h
  exact h v (List.mem_of_getElem? hv)

theorem AR.unmut (L : Lay P) {h : List V} (B : BX P g w h) (W : WG g w) (n : Nat) {v : V} {c : Value} (hv : AR P g w v c) (ho : v.over n = true) (hc : (v.unmut h).norm.clean = true) : AR P (g.trunc n w) w (v.unmut h).norm c := by
  cases hv with
  | leaf hl hv =>
    have hl2 := unmut_leafy h hl
    refine .leaf ?_ (hv.unmut L B W n ho hc)
    generalize v.unmut h = u at hl2
    cases u with
    | lst e f xs => cases f <;> rfl
    | agg => simp [V.leafy] at hl2
    | row => simp [V.leafy] at hl2
    | tup => simp [V.leafy] at hl2
    | _ => rfl
  | agg ht hn hl =>
    rename_i t u fs cs
    have e1 := HT.fl_unmut h ht
    have ht' := ht.unmut h
    have hnt := ht'.noTup
    have e2 := fl_norm _ hnt.1 hnt.2
    have hcl := clean_fl _ hc
    rw [e2, e1] at hcl
    rw [e1] at e2
    simp only [V.unmut, V.norm, V.fl] at e2 ⊢
    have htn := ht'.norm
    simp only [V.unmut, V.norm] at htn
    refine .agg htn (by rw [e2]; simp [hn]) fun j x c h1 h2 => ?_
    rw [e2, List.getElem?_map, Option.map_eq_some_iff] at h1
    obtain ⟨y, h1, rfl⟩ := h1
    rw [List.getElem?_map, Option.map_eq_some_iff] at h1
    obtain ⟨z, h1, rfl⟩ := h1
    refine (hl j z c h1 h2).unmut L B W n (over_fl n _ ho z (by simp only [V.fl]; exact List.mem_of_getElem? h1)) (hcl _ ?_)
    refine List.mem_map.2 ⟨z.unmut h, List.mem_map.2 ⟨z, ?_, rfl⟩, rfl⟩
    simp only [V.fl]; exact List.mem_of_getElem? h1

/-- what results are -/
inductive RR (P : Program) (g : G) (w : World) : V → Value → Prop where
  | one {v : V} {c : Value} : VR P g w v c → RR P g w v c
  | tup {vs : List V} {cs : List Value} : vs.length = cs.length → (∀ (j : Nat) (x : V) (c : Value), vs[j]? = some x → cs[j]? = some c → AR P g w x c) → RR P g w (.tup vs) (.tuple cs.toArray)

theorem RR.norm {v : V} {c : Value} (h : RR P g w v c) : VR P g w v.norm c := by
  cases h with
  | one h => exact h.norm
  | tup h1 h2 =>
    simp only [V.norm]
    refine .tup (noOwnL_norm _) (by rw [normL_map]; simp [h1]) fun j x c a b => ?_
    rw [normL_map, List.getElem?_map, Option.map_eq_some_iff] at a
    obtain ⟨y, a, rfl⟩ := a
    exact (h2 j y c a b).norm

theorem RR.unmut (L : Lay P) {h : List V} (B : BX P g w h) (W : WG g w) (n : Nat) {v : V} {c : Value} (hv : RR P g w v c) (ho : v.over n = true) (hc : (v.unmut h).norm.clean = true) : VR P (g.trunc n w) w (v.unmut h).norm c := by
  have tup : ∀ {vs : List V} {cs : List Value}, vs.length = cs.length → (∀ (j : Nat) (x : V) (c : Value), vs[j]? = some x → cs[j]? = some c → AR P g w x c) → overL n vs = true → cleanL (normL (unmutL h vs)) = true →
      VR P (g.trunc n w) w (.tup (normL (unmutL h vs))) (.tuple cs.toArray) := by
    intro vs cs h1 h2 ho hc
    refine .tup (noOwnL_norm _) (by rw [normL_map, unmutL_map]; simp [h1]) fun j x c a b => ?_
    have hx := cleanL_get hc a
    rw [normL_map, unmutL_map, List.getElem?_map, Option.map_eq_some_iff] at a
    obtain ⟨y, a, rfl⟩ := a
    rw [List.getElem?_map, Option.map_eq_some_iff] at a
    obtain ⟨z, a, rfl⟩ := a
    exact (h2 j z c a b).unmut L B W n (overL_get ho a) hx
  cases hv with
  | one hv =>
    cases hv with
    | val hv => exact .val (hv.unmut L B W n ho hc)
    | dead c => simp [V.unmut, V.norm, V.clean] at hc
    | tup h1 h2 h3 => exact tup h2 h3 (by simpa [V.over] using ho) (by simpa [V.unmut, V.norm, V.clean] using hc)
  | tup h1 h2 => exact tup h1 h2 (by simpa [V.over] using ho) (by simpa [V.unmut, V.norm, V.clean] using hc)

end
end AM
end Go.Proofs.YtmjocdbdbofcbaaDoor
end

section
set_option linter.unusedVariables false
set_option linter.unusedSimpArgs false
namespace Go.Proofs.YtmjocdbdbofcbaaDoor
namespace AM
open Go

section
variable {P : Program} {A : Ann} {O : Orc} {g g' : G} {w w' : World}

/-- one result -/
def rv1 (P : Program) (st : St) : ResultVar → Option V
  | .tmp t => some (st.get t)
  | .cell a t => if hasSl P depth t then ldS st.h t (st.get a) else ldP st.h t (st.get a)

def resRun (tm : Array Value) : ResultVar → Sem Value
  | .tmp t => pure (tm.getD t undef)
  | .cell a t => do loadVar t (← asAddr (tm.getD a undef))

theorem results_eq (fn : Func) (tm : Array Value) : results fn tm = (do let vs ← fn.results.mapM (resRun tm); pure (if h : vs.size = 1 then vs[0] else .tuple vs)) := by
  unfold results
  congr 1

theorem resK_spec {R : Type} {st : St} {k : V → Option R} {r : R} : ∀ (xs : List ResultVar) (vs : List V), resK P st xs vs k = some r →
    ∃ us, xs.map (rv1 P st) = us.map some ∧ ((∃ v, vs.reverse ++ us = [v] ∧ k v = some r) ∨ ((vs.reverse ++ us).length ≠ 1 ∧ (vs.reverse ++ us).all V.okE = true ∧ k (.tup (vs.reverse ++ us)) = some r)) := by
  intro xs
  induction xs with
  | nil =>
    intro vs h
    refine ⟨[], rfl, ?_⟩
    rw [List.append_nil]
    match vs, h with
    | [v], h => exact .inl ⟨v, rfl, h⟩
    | [], h =>
      simp only [resK] at h
      split at h
      · exact .inr ⟨by simp, by simp, h⟩
      · cases h
    | a :: b :: l, h =>
      simp only [resK] at h
      split at h
      · rename_i hh
        exact .inr ⟨by simp, by rw [List.all_reverse]; exact hh, h⟩
      · cases h
  | cons x xs ih =>
    intro vs h
    cases x with
    | tmp t =>
      simp only [resK] at h
      obtain ⟨us, h1, h2⟩ := ih _ h
      refine ⟨st.get t :: us, by simp [rv1, h1], ?_⟩
      simpa using h2
    | cell a t =>
      simp only [resK] at h
      obtain ⟨v, hv, h⟩ := Option.bind_eq_some_iff.1 h
      obtain ⟨us, h1, h2⟩ := ih _ h
      refine ⟨v :: us, by simp [rv1, h1, hv], ?_⟩
      simpa using h2

theorem rv1_sim (L : Lay P) {st : St} {tm : Array Value} (S : SR P A g w st tm) {x : ResultVar} {v : V} (h : rv1 P st x = some v) :
    ∃ c, (resRun tm x).run P w = .ok c w ∧ VR P g w v c ∧ ((∃ t, st.get t = v ∧ c = tm.getD t undef) ∨ v.noOwn = true) := by
  cases x with
  | tmp t =>
    simp only [rv1, Option.some.injEq] at h
    subst h
    exact ⟨_, rfl, S.slot t, .inl ⟨t, rfl, rfl⟩⟩
  | cell a t =>
    simp only [rv1] at h
    obtain ⟨c, hc, hv, hn⟩ := load_sim L S.wg S.box h (S.slot a)
    refine ⟨c, ?_, hv, .inr hn⟩
    simp only [Instr.loadAt, Sem.run_bind] at hc
    simp only [resRun, Sem.run_bind]
    generalize tm.getD a undef = ca at hc
    cases ca with
    | pointer p =>
      cases p with
      | none => simp [Instr.sureAddr] at hc
      | some ad => simpa [Instr.sureAddr, asAddr] using hc
    | _ => simp [Instr.sureAddr] at hc

theorem results_sim (L : Lay P) {R : Type} {st : St} {tm : Array Value} (S : SR P A g w st tm) {fn : Func} {k : V → Option R} {r : R} (h : resK P st fn.results.toList [] k = some r) :
    ∃ c v, (results fn tm).run P w = .ok c w ∧ k v = some r ∧ RR P g w v c ∧ (∀ e xs, v = .lst e .own xs → ∃ t, st.get t = v ∧ c = tm.getD t undef) := by
  obtain ⟨us, h1, h2⟩ := resK_spec _ _ h
  simp only [List.reverse_nil, List.nil_append] at h2
  -- each of them
  have hlen : fn.results.toList.length = us.length := by have := congrArg List.length h1; simpa using this
  have key : ∀ (i : Nat) (x : ResultVar) (v : V), fn.results.toList[i]? = some x → us[i]? = some v → ∃ c, (resRun tm x).run P w = .ok c w ∧ VR P g w v c ∧ ((∃ t, st.get t = v ∧ c = tm.getD t undef) ∨ v.noOwn = true) := by
    intro i x v hx hv
    refine rv1_sim L S ?_
    have := congrArg (·[i]?) h1
    simp only [List.getElem?_map, hx, hv, Option.map_some, Option.some.injEq] at this
    exact this
  have ex : ∀ x ∈ fn.results.toList, ∃ c, (resRun tm x).run P w = .ok c w := by
    intro x hx
    obtain ⟨i, hi, rfl⟩ := List.mem_iff_getElem.1 hx
    obtain ⟨c, hc, _⟩ := key i _ (us[i]'(by omega)) (List.getElem?_eq_getElem hi) (List.getElem?_eq_getElem _)
    exact ⟨c, hc⟩
  classical
  let val : ResultVar → Value := fun x => if hx : ∃ c, (resRun tm x).run P w = .ok c w then Classical.choose hx else undef
  have hval : ∀ x ∈ fn.results.toList, (resRun tm x).run P w = .ok (val x) w := by
    intro x hx
    have := ex x hx
    simp only [val, dif_pos this]
    exact Classical.choose_spec this
  have hrun := run_mapM_array (resRun tm) val fn.results hval
  have key2 : ∀ (i : Nat) (c : Value) (v : V), (fn.results.toList.map val)[i]? = some c → us[i]? = some v → VR P g w v c ∧ ((∃ t, st.get t = v ∧ c = tm.getD t undef) ∨ v.noOwn = true) := by
    intro i c v hc hv
    rw [List.getElem?_map, Option.map_eq_some_iff] at hc
    obtain ⟨x, hx, rfl⟩ := hc
    obtain ⟨c', hc', h1, h2⟩ := key i x v hx hv
    rw [hval x (List.mem_of_getElem? hx)] at hc'
    injection hc' with hcc
    subst hcc
    exact ⟨h1, h2⟩
  refine ⟨if hh : (fn.results.map val).size = 1 then (fn.results.map val)[0] else .tuple (fn.results.map val), ?_⟩
  rcases h2 with ⟨v, rfl, hk⟩ | ⟨hne, hok, hk⟩
  · have h1' : (fn.results.map val).size = 1 := by simpa using hlen
    have hget : (fn.results.toList.map val)[0]? = some (fn.results.map val)[0] := by
      rw [← Array.toList_map, Array.getElem?_toList, Array.getElem?_eq_getElem (by omega)]
    obtain ⟨k1, k2⟩ := key2 0 _ v hget rfl
    refine ⟨v, ?_, hk, .one (by rw [dif_pos h1']; exact k1), fun e xs hv => ?_⟩
    · rw [results_eq]
      simp only [Sem.run_bind, hrun, Result.andThen_ok, Sem.run_pure]
    · rw [dif_pos h1']
      rcases k2 with ⟨t, a, b⟩ | hn
      · exact ⟨t, a, b⟩
      · subst hv; simp [V.noOwn] at hn
  · have h1' : ¬ (fn.results.map val).size = 1 := by simpa using fun hh => hne (by rw [← hlen]; simpa using hh)
    have hne' : fn.results.map val = (fn.results.toList.map val).toArray := by apply Array.ext'; simp
    refine ⟨.tup us, ?_, hk, ?_, fun e xs hv => by cases hv⟩
    · rw [results_eq]
      simp only [Sem.run_bind, hrun, Result.andThen_ok, Sem.run_pure]
    · rw [dif_neg h1', hne']
      refine .tup (by rw [← hlen]; simp) fun j x c a b => ?_
      have hx : x.okE = true := (List.all_eq_true.1 hok) x (List.mem_of_getElem? a)
      cases (key2 j c x b a).1 with
      | val h => exact h
      | dead c => simp [V.okE] at hx
      | tup _ _ _ => simp [V.okE] at hx

theorem fin_sim (L : Lay P) (FO : FnOk P A) {f : FuncId} {g0 : G} {w0 : World} {h0 : List V} {st : St} {tm : Array Value} {v : V} {c : Value} {res : V × List V} (l : Nat ⊕ (Nat × Nat)) (B0 : BX P g0 w0 h0) (W0 : WG g0 w0) (E : Ext g0 w0 g w) (S : SR P A g w st tm)
    (hv : RR P g w v c) (ho : ∀ e xs, v = .lst e .own xs → ∃ t, st.get t = v ∧ c = tm.getD t undef) (h : fin A f h0.length st.h v = some res) :
    ∃ g', Ext g0 w0 g' w ∧ VR P g' w res.1 c ∧ (∀ e xs, res.1 = .lst e .own xs → Own P g' w e xs.length c l) ∧ ((∃ e xs, res.1 = .lst e .own xs) ∨ res.1.noOwn = true) ∧ BX P g' w res.2 ∧ WG g' w ∧ GlobOk P A g' w ∧
      (A.ret f ≠ .keep → res.1.clean = true ∨ ∃ e xs, res.1 = .lst e .own xs ∧ cleanL xs = true) := by
  unfold fin at h
  split at h
  · -- trunc
    unfold finT at h
    dsimp only at h
    split at h
    · rename_i hok
      simp only [Bool.and_eq_true] at hok
      obtain rfl := Option.some.inj h
      refine ⟨g.trunc h0.length w, E.trunc B0 S.box S.wg, hv.unmut L S.box S.wg _ hok.2 hok.1, fun e xs hh => ?_, .inr (noOwn_norm _), S.box.trunc S.wg _, S.wg.trunc S.box _, S.glob.trunc FO S.box S.wg _, fun _ => .inl hok.1⟩
      have := noOwn_norm (v.unmut st.h)
      dsimp only at hh
      rw [hh] at this; simp [V.noOwn] at this
    · cases h
  · -- own
    rename_i hret
    unfold finO at h
    split at h
    · rename_i e xs
      obtain rfl := Option.some.inj h
      obtain ⟨t, ht, hct⟩ := ho e xs rfl
      have hOwn := S.own t e xs ht
      rw [← hct] at hOwn
      have hV : VR P g w (.lst e .own xs) c := by
        cases hv with
        | one h => exact h
      have hclx : cleanL xs = true := by
        have hlr := hV.leaf' rfl (by simp)
        cases hlr with
        | emp => rfl
        | lst _ _ _ _ _ _ _ _ _ hcl => exact hcl (by simp)
      -- into the caller's hands, then the boxes go
      rcases hOwn with hl | ⟨b, off, len, cap, cs, e', fz, k1, k2, k3, k4, k5, k6, k7, k8⟩
      · refine ⟨g.trunc h0.length w, E.trunc B0 S.box S.wg, hV.truncTo S.box S.wg _ (by simp [V.under]), fun e1 xs1 hh => .inl hl, .inl ⟨e, xs, rfl⟩, S.box.trunc S.wg _, S.wg.trunc S.box _, S.glob.trunc FO S.box S.wg _, fun _ => .inr ⟨e, xs, rfl, hclx⟩⟩
      · let g2 : G := { g with H := fun x => if x = b then some l else g.H x }
        have E2 : Ext g0 w0 g2 w := by
          refine ⟨E.os, E.tape, E.out, E.size, fun x hx h1 h2 => ?_, E.keep, E.beta, E.typ, E.bsz⟩
          obtain ⟨a1, a2, a3, a4, a5⟩ := E.same x hx h1 h2
          refine ⟨a1, ?_, a3, a4, a5⟩
          have : x ≠ b := by rintro rfl; rw [a2] at k2; cases k2
          simp [g2, this, a2]
        have B2 : BX P g2 w st.h := by
          refine ⟨S.box.len, S.box.tys, S.box.inj, S.box.has, S.box.void, S.box.low, fun i y x h1 h2 => ?_⟩
          obtain ⟨cs, e, fz, c1, c2, c3, c4⟩ := S.box.cells i y x h1 h2
          refine ⟨cs, e, fz, c1, c2, c3, fun j z hz => ?_⟩
          obtain ⟨c, d1, d2, d3⟩ := c4 j z hz
          refine ⟨c, d1, LR.congr (g := g) (g2 := g2) rfl rfl rfl rfl d2, fun e xs hh => ?_⟩
          rcases d3 e xs hh with hx | ⟨b', off', len', cap', cs', e'', fz', m1, m2, m3, m4, m5, m6, m7, m8⟩
          · exact .inl hx
          · have : b' ≠ b := by rintro rfl; rw [k2] at m2; cases m2
            exact .inr ⟨b', off', len', cap', cs', e'', fz', m1, by simp [g2, this, m2], m3, m4, m5, m6, m7, m8⟩
        have W2 : WG g2 w := by
          refine ⟨fun x hx => ?_, fun i x hx => ?_, S.wg.le⟩
          · obtain ⟨a1, a2, a3⟩ := S.wg.fresh x hx
            have : x ≠ b := by rintro rfl; rw [a1] at k2; cases k2
            exact ⟨by simp [g2, this, a1], a2, a3⟩
          · obtain ⟨a1, a2, a3, a4⟩ := S.wg.box i x hx
            have : x ≠ b := by rintro rfl; rw [a4] at k2; cases k2
            exact ⟨a1, a2, a3, by simp [g2, this, a4]⟩
        have Gl2 : GlobOk P A g2 w := fun i t v hi => LR.congr (g := g) (g2 := g2) rfl rfl rfl rfl (S.glob i t v hi)
        have hV2 : VR P g2 w (.lst e .own xs) c := VR.congr (g := g) (g2 := g2) rfl rfl rfl rfl hV
        have hO2 : Own P g2 w e xs.length c l := .inr ⟨b, off, len, cap, cs, e', fz, k1, by simp [g2], k3, k4, k5, k6, k7, k8⟩
        refine ⟨g2.trunc h0.length w, E2.trunc B0 B2 W2, hV2.truncTo B2 W2 _ (by simp [V.under]), fun e1 xs1 hh => ?_, .inl ⟨e, xs, rfl⟩, B2.trunc W2 _, W2.trunc B2 _, Gl2.trunc FO B2 W2 _, fun _ => .inr ⟨e, xs, rfl, hclx⟩⟩
        cases hh
        exact hO2.truncTo B2 W2 _
    · rename_i e xs
      obtain rfl := Option.some.inj h
      have hV : VR P g w (.lst e .nil xs) c := by
        cases hv with
        | one h => exact h
      refine ⟨g.trunc h0.length w, E.trunc B0 S.box S.wg, hV.truncTo S.box S.wg _ (by simp [V.under]), ?_, .inr rfl, S.box.trunc S.wg _, S.wg.trunc S.box _, S.glob.trunc FO S.box S.wg _, fun _ => .inl rfl⟩
      intro e1 xs1 hh
      cases hh
    · -- a window of a box that goes: its block is the caller's
      rename_i id off len e
      split at h
      case h_2 => cases h
      rename_i er xr hrow
      split at h
      case h_2 => cases h
      rename_i xs hxs
      split at h
      case isFalse => cases h
      rename_i hok
      simp only [Bool.and_eq_true] at hok
      obtain ⟨⟨hcx, hid⟩, hpos⟩ := hok
      have hid' : h0.length ≤ id := Nat.le_of_ble_eq_true hid
      have hpos' : 0 < len := Nat.le_of_ble_eq_true hpos
      obtain rfl := Option.some.inj h
      have hV : VR P g w (.win id [] off len e) c := by
        cases hv with
        | one h => exact h
      have hlr := hV.leaf' rfl (by simp)
      have hxl : xs.length = len := by
        have h0 := hlr
        generalize c = c0 at h0
        simp only [content] at hxs
        obtain ⟨ys, hys, rfl⟩ := Option.map_eq_some_iff.1 hxs
        cases h0 with
        | win0 => omega
        | win _ _ _ _ _ bt o n b cap a1 a2 a3 a4 a5 a6 =>
          obtain ⟨v, hv2, hi⟩ := Option.bind_eq_some_iff.1 hys
          obtain ⟨r1, _⟩ := S.box.arr L a1 a2 hv2 hi
          simp; omega
      have hbt : ∃ e' n', g.ty[id]? = some (.row e' n') := by
        have hlt : id < g.ty.length := by rw [← S.box.tys]; exact lt_of_get hrow
        have hh := S.box.has id _ _ hrow (List.getElem?_eq_getElem hlt)
        cases hty : g.ty[id] with
        | row e' n' => exact ⟨e', n', by rw [List.getElem?_eq_getElem hlt, hty]⟩
        | var t =>
          rw [hty] at hh
          cases hh with
          | scal _ hs _ => simp [V.scal] at hs
      rcases win_cells L S.box hlr hxs with ⟨rfl, _⟩ | ⟨b, o, cap, cs, rfl, h4, q1, q2, ht, hsz, hb, hcap, hcb⟩
      · simp at hxl; omega
      · have hcb := hcb rfl hbt
        obtain ⟨w1, w2, w3, w4⟩ := S.wg.box id b h4
        obtain ⟨csb, eb, fzb, c1, c2, c3, _⟩ := S.box.cells id _ b hrow h4
        have hbs : boxSize w b = csb.size := by simp [boxSize, c1]
        have hcl := cleanL_norm xs hcx
        have q1' := LRs.norm ht q1
        have hnl : (normL xs).length = xs.length := by rw [normL_map]; simp
        have hcc : cs.length = xs.length * P.cellsOf e := by rw [q1.1, length_flL_of L xs e fun x hx => HT.size L (ht x hx)]
        -- the boxes go, and the block is handed on
        let gt := g.trunc h0.length w
        let g2 : G := { gt with H := fun x => if x = b then some l else gt.H x, ro := fun x => if x = b then o + cs.length else gt.ro x, lro := fun x => if x = b then o + cs.length else gt.lro x }
        have Et : Ext g0 w0 gt w := E.trunc B0 S.box S.wg
        have Wt : WG gt w := S.wg.trunc S.box _
        have Bt : BX P gt w (st.h.take h0.length) := S.box.trunc S.wg _
        have hnew : w0.heap.size ≤ b := by
          rcases Nat.lt_or_ge b w0.heap.size with hlt | hge
          · exfalso
            have hm : some b ∈ g0.β := by
              refine Classical.byContradiction fun hn => ?_
              exact (E.keep b hlt).2.2.2 hn (List.mem_of_getElem? h4)
            obtain ⟨k, hk, hkk⟩ := List.mem_iff_getElem.1 hm
            obtain ⟨lb, hlb⟩ := E.beta
            have : g.β[k]? = some (some b) := by rw [hlb, List.getElem?_append_left hk, List.getElem?_eq_getElem hk, hkk]
            have hki := S.box.inj k id b this h4
            rw [← B0.len] at hk
            omega
          · exact hge
        have hnb : some b ∉ gt.β := by
          intro hm
          obtain ⟨k, hk, hkk⟩ := List.mem_iff_getElem.1 hm
          have hg : gt.β[k]? = some (some b) := by rw [List.getElem?_eq_getElem hk, hkk]
          obtain ⟨hkn, hg⟩ := take_get.1 hg
          have := S.box.inj k id b hg h4
          omega
        -- nothing that is read lies in the block as yet
        have hro : ∀ x, g.ro x ≤ g2.ro x := by
          intro x
          by_cases hx : x = b
          · subst hx; rw [w2]; exact Nat.zero_le _
          · simp only [g2, if_neg hx]; exact trunc_ro S.box S.wg _ x
        have lift : ∀ {v : V} {c : Value}, LR P g w v c → v.under h0.length = true → LR P g2 w v c := by
          intro v c hv
          induction hv with
          | bool b => intro _; exact .bool b
          | int k n => intro _; exact .int k n
          | str s => intro _; exact .str s
          | nilp => intro _; exact .nilp
          | nilf => intro _; exact .nilf
          | nili => intro _; exact .nili
          | undef c hc => intro _; exact .undef c hc
          | nil e => intro _; exact .nil e
          | emp e f a cap hf => intro _; exact .emp e f a cap hf
          | lst e f ys b' off' cap' cs' hf ht' hcl' hn' hc' hl' hb' hr' hcap' ih =>
            intro hu
            have hxs : underL h0.length ys = true := by
              by_cases hff : f = .lent
              · subst hff; simpa [V.under] using hu
              · exact clean_underL _ ys (hcl' hff)
            rw [underL_fl, List.all_eq_true] at hxs
            refine .lst e f ys b' off' cap' cs' hf ht' hcl' hn' hc' (fun j x c h1 h2 => ih j x c h1 h2 (hxs x (List.mem_of_getElem? h1))) hb' ?_ hcap'
            by_cases hx : b' = b
            · subst hx
              have : g.lim f b' = 0 := by cases f <;> simp only [G.lim, w2, w3]
              rw [this] at hr'
              exact Nat.le_trans hr' (Nat.zero_le _)
            · refine Nat.le_trans hr' (Nat.le_trans (trunc_lim S.box S.wg h0.length f b') ?_)
              cases f <;> simp only [G.lim, g2, if_neg hx] <;> exact Nat.le_refl _
          | win id p off len e bt o n' b cap a1 a2 a3 a4 a5 a6 =>
            intro hu
            have hlt : id < h0.length := by simpa [V.under] using hu
            exact .win id p off len e bt o n' b cap (take_get.2 ⟨hlt, a1⟩) a2 a3 (take_get.2 ⟨hlt, a4⟩) a5 a6
          | win0 id p off e bt o n' a cap a1 a2 a3 =>
            intro hu
            have hlt : id < h0.length := by simpa [V.under] using hu
            exact .win0 id p off e bt o n' a cap (take_get.2 ⟨hlt, a1⟩) a2 a3
          | ref id p t bt o b h1 h2 h3 =>
            intro hu
            have hlt : id < h0.length := by simpa [V.under] using hu
            exact .ref id p t bt o b (take_get.2 ⟨hlt, h1⟩) h2 (take_get.2 ⟨hlt, h3⟩)
          | rop t x b' off' cs' ht' hn' hc' hl' hb' hr' ih =>
            intro hu
            have hx : x.under h0.length = true := by simpa [V.under] using hu
            rw [under_fl, List.all_eq_true] at hx
            refine .rop t x b' off' cs' ht' hn' hc' (fun j y c h1 h2 => ih j y c h1 h2 (hx y (List.mem_of_getElem? h1))) hb' ?_
            by_cases hxb : b' = b
            · subst hxb
              rw [w3] at hr'
              exact Nat.le_trans hr' (Nat.zero_le _)
            · refine Nat.le_trans hr' (Nat.le_trans (trunc_lro S.box S.wg h0.length b') ?_)
              simp only [g2, if_neg hxb]; exact Nat.le_refl _
          | clo f vs cs' hn' hl' ih =>
            intro hu
            have hx : underL h0.length vs = true := by simpa [V.under] using hu
            exact .clo f vs cs' hn' fun j x c h1 h2 => ih j x c h1 h2 (underL_get hx h1)
        have W2 : WG g2 w := by
          refine ⟨fun x hx => ?_, fun i x hx => ?_, fun x => ?_⟩
          · obtain ⟨a1, a2, a3⟩ := Wt.fresh x hx
            have : x ≠ b := by rintro rfl; omega
            simp only [g2, if_neg this]; exact ⟨a1, a2, a3⟩
          · obtain ⟨a1, a2, a3, a4⟩ := Wt.box i x hx
            have : x ≠ b := by rintro rfl; exact hnb (List.mem_of_getElem? hx)
            simp only [g2, if_neg this]; exact ⟨a1, a2, a3, a4⟩
          · by_cases hx : x = b
            · subst hx; simp only [g2, if_true]; exact Nat.le_refl _
            · simp only [g2, if_neg hx]; exact Wt.le x
        have B2 : BX P g2 w (st.h.take h0.length) := by
          refine ⟨Bt.len, Bt.tys, Bt.inj, Bt.has, Bt.void, Bt.low, fun i y x h1 h2 => ?_⟩
          obtain ⟨hlt, h1'⟩ := take_get.1 h1
          obtain ⟨_, h2'⟩ := take_get.1 h2
          obtain ⟨cs', e', fz', d1, d2, d3, d4⟩ := S.box.cells i y x h1' h2'
          refine ⟨cs', e', fz', d1, d2, d3, fun j z hz => ?_⟩
          obtain ⟨c', k1, k2, k3⟩ := d4 j z hz
          have hu := under_mono (n := i + 1) (m := h0.length) (by omega) y (S.box.low i y h1')
          rw [under_fl, List.all_eq_true] at hu
          refine ⟨c', k1, lift k2 (hu z (List.mem_of_getElem? hz)), fun e1 xs1 hh => ?_⟩
          rcases (k3 e1 xs1 hh).truncTo S.box S.wg h0.length with hl | ⟨b', off', len', cap', cs2, e2, fz2, m1, m2, m3, m4, m5, m6, m7, m8⟩
          · exact .inl hl
          · have hne : b' ≠ b := by
              rintro rfl
              have : g.H b' = some (Sum.inr (x, j)) := m2
              rw [w4] at this; cases this
            exact .inr ⟨b', off', len', cap', cs2, e2, fz2, m1, by simp only [g2, if_neg hne]; exact m2, m3, m4, m5, m6, by simp only [g2, if_neg hne]; exact m7, by simp only [g2, if_neg hne]; exact m8⟩
        have E2 : Ext g0 w0 g2 w := by
          refine ⟨Et.os, Et.tape, Et.out, Et.size, fun x hx h1 h2 => ?_, fun x hx => ?_, Et.beta, Et.typ, Et.bsz⟩
          · have : x ≠ b := by rintro rfl; omega
            obtain ⟨a1, a2, a3, a4, a5⟩ := Et.same x hx h1 h2
            exact ⟨a1, by simp only [g2, if_neg this]; exact a2, a3, by simp only [g2, if_neg this]; exact a4, by simp only [g2, if_neg this]; exact a5⟩
          · have : x ≠ b := by rintro rfl; omega
            obtain ⟨a1, a2, a3, a4⟩ := Et.keep x hx
            exact ⟨a1, by simp only [g2, if_neg this]; exact a2, by simp only [g2, if_neg this]; exact a3, a4⟩
        have Gl2 : GlobOk P A g2 w := fun i t v hi => lift (S.glob i t v hi) (by simp only [V.under]; exact clean_under _ v (FO.glob i t v hi))
        have hL : LR P g2 w (.lst e .own (normL xs)) (.slice (some ⟨b, o, none⟩) xs.length cap) := by
          have := LR.lst (P := P) (g := g2) (w := w) e .own (normL xs) b o cap cs (by simp) (fun x hx => by
              rw [normL_map, List.mem_map] at hx
              obtain ⟨y, hy, rfl⟩ := hx
              exact (ht y hy).norm) (fun _ => hcl) q1'.1 q2 (fun j x c a1 a2 => lift (q1'.2 j x c a1 a2) (clean_under _ x (clean_flL _ hcl x (List.mem_of_getElem? a1)))) hb
            (by simp only [G.lim, g2, if_true]; exact Nat.le_refl _) (by rw [hnl]; exact hcap)
          rw [hnl] at this; exact this
        refine ⟨g2, E2, .lf rfl hL, fun e1 xs1 hh => ?_, .inl ⟨e, _, rfl⟩, B2, W2, Gl2, fun _ => .inr ⟨e, _, rfl, hcl⟩⟩
        cases hh
        refine .inr ⟨b, o, xs.length, cap, csb, eb, fzb, rfl, by simp [g2], hnb, c1, by rw [← hbs]; exact hcb, c3, ?_, by simp [g2]⟩
        simp only [g2, if_true]
        rw [hcc, hnl]
    · cases h
  · -- keep
    rename_i hret
    unfold finK at h
    obtain rfl := Option.some.inj h
    refine ⟨g, E, hv.norm, fun e xs hh => ?_, .inr (noOwn_norm _), S.box, S.wg, S.glob, fun hh => (hh hret).elim⟩
    have := noOwn_norm v
    dsimp only at hh
    rw [hh] at this; simp [V.noOwn] at this

end
end AM
end Go.Proofs.YtmjocdbdbofcbaaDoor
end

section
set_option linter.unusedVariables false
set_option linter.unusedSimpArgs false
namespace Go.Proofs.YtmjocdbdbofcbaaDoor
namespace AM
open Go

section
variable {P : Program} {A : Ann} {O : Orc} {g g' : G} {w w' : World}

/-- a loop that has begun -/
def LoopWp (P : Program) (b : Code) (Q : Exit → Act → World → Prop) (a : Act) (w : World) : Prop :=
  ∀ (fr : Frame) (k : List Item) (cs : List Frame), ∃ e a' w', Q e a' w' ∧ Arrives P (lone (fr.at a (.code b :: .inLoop b :: k)) cs w) fr k cs e a' w'

theorem LoopWp.wp {b : Code} {Q : Exit → Act → World → Prop} {a : Act} {w : World} (h : LoopWp P b Q a w) : (Code.loop b).wp P Q a w := by
  intro fr k cs
  obtain ⟨e, a', w', hq, harr⟩ := h fr k cs
  exact ⟨e, a', w', hq, .of_steps (.one step_loop) harr⟩

theorem LoopWp.step {b : Code} {Q : Exit → Act → World → Prop} {a : Act} {w : World} (h : b.wp P (Exit.then (LoopWp P b Q) Q) a w) : LoopWp P b Q a w := by
  intro fr k cs
  obtain ⟨e, a₁, w₁, hq, harr⟩ := h fr (.inLoop b :: k) cs
  cases e with
  | normal =>
    obtain ⟨e₂, a₂, w₂, hq₂, harr₂⟩ := hq fr k cs
    exact ⟨e₂, a₂, w₂, hq₂, .of_steps (Steps.trans harr (.one step_inLoop)) harr₂⟩
  | exit id => exact ⟨_, a₁, w₁, hq, .pass (x := .inLoop b) rfl (fun _ _ => .inl (by simp)) harr⟩
  | goto l => exact ⟨_, a₁, w₁, hq, .pass (x := .inLoop b) rfl (fun _ _ => .inl (by simp)) harr⟩
  | ret => exact ⟨_, a₁, w₁, hq, .pass (x := .inLoop b) rfl (fun _ _ => .inl (by simp)) harr⟩
  | panic ch => exact ⟨_, a₁, w₁, hq, .pass (x := .inLoop b) rfl (fun _ _ => .inl (by simp)) harr⟩
  | outgrown => exact ⟨_, a₁, w₁, hq, .pass (x := .inLoop b) rfl (fun _ _ => .inl (by simp)) harr⟩

/-- what is checked of a code -/
def chkC (P : Program) (A : Ann) (S : List Nat) (n : Nat) (fn : FuncId) : Code → Bool
  | .region id os d => ((List.range os.size).all fun i => match os[i]? with
      | some o => chkOp P A S n fn id i o
      | none => false) && (!d || regChk P A fn id os)
  | .seq a b => chkC P A S n fn a && chkC P A S n fn b
  | .cond _ a b => chkC P A S n fn a && chkC P A S n fn b
  | .block _ b => chkC P A S n fn b
  | .loop b => chkC P A S n fn b
  | _ => true
  termination_by structural c => c

def exOf : Ex → Exit
  | .normal => .normal
  | .exit id => .exit id
  | .ret => .ret

def LoopOk (P : Program) (A : Ann) (fn : FuncId) (b : Code) (st : St) (r : Ex × St) : Prop :=
  ∀ (S : List Nat) (n : Nat) (a : Act) (g : G) (w : World), chkC P A S n fn b = true → a.tmps.size = n → SR P A g w st a.tmps → NO S st →
    ∀ Q : Exit → Act → World → Prop, (∀ a' w', Aft P A S g w a r.2 a' w' → Q (exOf r.1) a' w') → LoopWp P b Q a w
def LoopsOk (P : Program) (A : Ann) (O : Orc) : Prop := ∀ fn blk b st r, O.loop fn blk b st = some r → LoopOk P A fn b st r

theorem Old.drew (w : World) (g : G) : Old g w g { w with drawn := w.drawn + 1 } :=
  ⟨rfl, rfl, rfl, Nat.le_refl _, fun b hb => ⟨rfl, rfl, rfl, rfl⟩, ⟨[], by simp⟩, ⟨[], by simp⟩⟩

theorem exec_sim (L : Lay P) (FO : FnOk P A) (HO : CallsOk P A O) (HL : LoopsOk P A O) (hm : P.follows .mixedOrders = true) {R : Type} {Sl : List Nat} {n : Nat} {fn : FuncId} {r : R} : ∀ (c : Code) (blk : Nat) (st : St) (a : Act) (g : G) (w : World) (k : Ex → St → Option R),
    chkC P A Sl n fn c = true → a.tmps.size = n → SR P A g w st a.tmps → NO Sl st → exec P A O fn blk c st k = some r →
    ∀ Q : Exit → Act → World → Prop, (∀ e st' a' w', k e st' = some r → Aft P A Sl g w a st' a' w' → Q (exOf e) a' w') → c.wp P Q a w := by
  intro c
  induction c with
  | skip => intro blk st a g w k hc hn S N h Q hQ; exact wp_skip (hQ .normal st a w h ⟨⟨g, Ext.refl g w, S⟩, N, rfl, rfl⟩)
  | region id os d =>
    intro blk st a g w k hc hn S N h Q hQ
    simp only [exec] at h
    split at h
    · rename_i hap
      simp only [chkC, Bool.and_eq_true, List.all_eq_true, List.mem_range, Bool.or_eq_true, Bool.not_eq_true'] at hc
      obtain ⟨hc1, hc2⟩ := hc
      have hco : ∀ i o, os[i]? = some o → chkOp P A Sl n fn id i o = true := by
        intro i o ho
        have := hc1 i (Array.getElem?_eq_some_iff.1 ho).1
        rw [ho] at this; exact this
      have S1 : SR P A g w { st with s := AM.drop (A.pre fn id) st.s } a.tmps := S.less (drop_less st _) rfl
      have N1 : NO Sl { st with s := AM.drop (A.pre fn id) st.s } := N.less (drop_less st _)
      have back : ∀ {g : G} {w : World} (st' : St) (a' : Act) (w' : World), Aft P A Sl g w a st' a' w' → Aft P A Sl g w a { st' with s := AM.drop (A.kills fn id) st'.s } a' w' := by
        rintro g w st' a' w' ⟨⟨g', E, S'⟩, N', h1, h2⟩
        exact ⟨⟨g', E, S'.less (drop_less st' _) rfl⟩, N'.less (drop_less st' _), h1, h2⟩
      cases d with
      | false => exact wp_region (ops_sim L FO HO hco _ _ _ a g w hn S1 N1 h fun st' a' w' hk A' => hQ .normal _ a' w' hk (back st' a' w' A'))
      | true =>
        have hreg : regChk P A fn id os = true := by simpa using hc2
        refine wp_region_draw fun t => ?_
        rw [hm]
        have O1 := Old.drew w g
        have S2 : SR P A g { w with drawn := w.drawn + 1 } { st with s := AM.drop (A.pre fn id) st.s } a.tmps := S1.old O1 ⟨S1.wg.fresh, S1.wg.box, S1.wg.le⟩ rfl rfl
        exact ops_sim L FO HO hco _ _ _ a g _ hn S2 N1 (schedule_ops hreg hap h t) fun st' a' w' hk A' => hQ .normal _ a' w' hk (back st' a' w' (Aft.trans ⟨g, O1.ext, A'⟩ rfl rfl))
    · cases h
  | seq x y ihx ihy =>
    intro blk st a g w k hc hn S N h Q hQ
    simp only [chkC, Bool.and_eq_true] at hc
    simp only [exec] at h
    refine wp_seq (ihx blk st a g w _ hc.1 hn S N h _ fun e st' a' w' hk A' => ?_)
    obtain ⟨⟨g', E, S'⟩, N', h1, h2⟩ := A'
    cases e with
    | normal => exact ihy blk st' a' g' w' k hc.2 (h1.trans hn) S' N' hk Q fun e st2 a2 w2 hk2 A2 => hQ e st2 a2 w2 hk2 (Aft.trans ⟨g', E, A2⟩ h1 h2)
    | exit j => exact hQ (.exit j) st' a' w' hk ⟨⟨g', E, S'⟩, N', h1, h2⟩
    | ret => exact hQ .ret st' a' w' hk ⟨⟨g', E, S'⟩, N', h1, h2⟩
  | cond x p q ihp ihq =>
    intro blk st a g w k hc hn S N h Q hQ
    simp only [chkC, Bool.and_eq_true] at hc
    simp only [exec] at h
    have hV := S.ev 0 x
    rcases ite_some h with ⟨hb, h⟩ | ⟨hb, h⟩
    · rw [hb] at hV
      exact wp_cond_true hV.bool' (ihp blk st a g w k hc.1 hn S N h Q hQ)
    · rw [hb] at hV
      exact wp_cond_false hV.bool' (ihq blk st a g w k hc.2 hn S N h Q hQ)
  | block id b ih =>
    intro blk st a g w k hc hn S N h Q hQ
    simp only [chkC] at hc
    simp only [exec] at h
    refine wp_block (ih id st a g w _ hc hn S N h _ fun e st' a' w' hk A' => ?_)
    cases e with
    | normal => exact hQ .normal st' a' w' hk A'
    | exit j =>
      simp only [blockK] at hk
      show (if j = id then Q .normal a' w' else Q (.exit j) a' w')
      split at hk
      · rename_i hj; rw [if_pos hj]; exact hQ .normal st' a' w' hk A'
      · rename_i hj; rw [if_neg hj]; exact hQ (.exit j) st' a' w' hk A'
    | ret => exact hQ .ret st' a' w' hk A'
  | loop b ih =>
    intro blk st a g w k hc hn S N h Q hQ
    simp only [chkC] at hc
    simp only [exec, lp] at h
    obtain ⟨rr, hr, hk⟩ := Option.bind_eq_some_iff.1 h
    have hless : ∀ i, ({ st with s := mask (A.keep fn blk) st.s } : St).get i = st.get i ∨ ({ st with s := mask (A.keep fn blk) st.s } : St).get i = .undef := by
      intro i
      unfold mask
      split
      · exact .inl rfl
      · exact hold_less st st.h _ i
    exact (HL _ _ _ _ _ hr Sl n a g w hc hn (S.less hless rfl) (N.less hless) Q fun a' w' A' => hQ rr.1 rr.2 a' w' hk A').wp
  | exit id => intro blk st a g w k hc hn S N h Q hQ; exact wp_exit (hQ (.exit id) st a w h ⟨⟨g, Ext.refl g w, S⟩, N, rfl, rfl⟩)
  | ret => intro blk st a g w k hc hn S N h Q hQ; exact wp_ret (hQ .ret st a w h ⟨⟨g, Ext.refl g w, S⟩, N, rfl, rfl⟩)
  | _ => intro blk st a g w k hc hn S N h; simp [exec] at h

theorem Aft.refl {Sl : List Nat} {st : St} {a : Act} (S : SR P A g w st a.tmps) (N : NO Sl st) : Aft P A Sl g w a st a w := ⟨⟨g, Ext.refl g w, S⟩, N, rfl, rfl⟩

theorem loop_sim (L : Lay P) (FO : FnOk P A) (HO : CallsOk P A O) (HL : LoopsOk P A O) (hm : P.follows .mixedOrders = true) {fn : FuncId} {blk : Nat} {b : Code} {st : St} {r : Ex × St} (h : round P A O fn blk b st = some r) : LoopOk P A fn b st r := by
  intro Sl n a g w hc hn S N Q hQ
  refine LoopWp.step ?_
  unfold round at h
  refine exec_sim L FO HO HL hm b blk st a g w _ hc hn S N h _ fun e st1 a1 w1 hk A1 => ?_
  obtain ⟨⟨g1, E1, S1⟩, N1, h1, h2⟩ := A1
  -- the next rounds
  have next : ∀ {st2 : St}, (∃ g2, Ext g w g2 w1 ∧ SR P A g2 w1 st2 a1.tmps) → NO Sl st2 → lp O fn blk b (fun e st => some (e, st)) st2 = some r → LoopWp P b Q a1 w1 := by
    rintro st2 ⟨g2, E2, S2⟩ N2 hlp
    unfold lp at hlp
    obtain ⟨rr, hr, he⟩ := Option.bind_eq_some_iff.1 hlp
    obtain rfl := Option.some.inj he
    exact HL _ _ _ _ _ hr Sl n a1 g2 w1 hc (h1.trans hn) S2 N2 Q fun a' w' A' => hQ a' w' (Aft.trans ⟨g2, E2, A'⟩ h1 h2)
  cases e with
  | normal =>
    simp only [loopK, cut] at hk
    show LoopWp P b Q a1 w1
    split at hk
    · exact next ⟨g1, E1, S1⟩ N1 hk
    · rename_i l hkeep
      split at hk
      · rename_i hu
        exact next ⟨g1.trunc st.h.length w1, E1.trunc S.box S1.box S1.wg, S1.trunc FO hu⟩ (N1.less (hold_less st1 _ l)) hk
      · cases hk
    · rename_i l hkeep
      exact next ⟨g1, E1, S1.less (hold_less st1 _ l) rfl⟩ (N1.less (hold_less st1 _ l)) hk
  | exit j =>
    obtain rfl := Option.some.inj hk
    exact hQ a1 w1 ⟨⟨g1, E1, S1⟩, N1, h1, h2⟩
  | ret =>
    obtain rfl := Option.some.inj hk
    exact hQ a1 w1 ⟨⟨g1, E1, S1⟩, N1, h1, h2⟩

theorem look_enum : ∀ (vs : List V) (k i : Nat), look i (enum k vs) = if k ≤ i then (vs[i - k]?).getD .undef else .undef
  | [], k, i => by simp [enum, look]
  | v :: vs, k, i => by
    simp only [enum, look]
    cases h : Nat.beq k i
    · have hne := Nat.ne_of_beq_eq_false h
      simp only [cond_false]
      rw [look_enum vs (k + 1) i]
      by_cases h1 : k + 1 ≤ i
      · have e : i - k = (i - (k + 1)) + 1 := by omega
        rw [if_pos h1, if_pos (by omega), e, List.getElem?_cons_succ]
      · rw [if_neg h1, if_neg (by omega)]
    · have := Nat.eq_of_beq_eq_true h
      subst this
      simp

theorem noOwnL_get {i : Nat} {vs : List V} {v : V} (h : noOwnL vs = true) (hv : vs[i]? = some v) : v.noOwn = true := by
  induction vs generalizing i with
  | nil => simp at hv
  | cons x vs ih =>
    simp only [noOwnL, Bool.and_eq_true] at h
    cases i with
    | zero => simp at hv; subst hv; exact h.1
    | succ i => exact ih h.2 (by simpa using hv)

theorem call_ok (L : Lay P) (FO : FnOk P A) (HO : CallsOk P A O) (HL : LoopsOk P A O) (hm : P.follows .mixedOrders = true) (S : FuncId → List Nat) (hS : ∀ f fn c, P.funcs[f]? = some fn → fn.body = some c → chkC P A (S f) fn.ntmps f c = true)
    {f : FuncId} {vs h : List V} {r : V × List V} (hb : body P A O f vs h = some r) : CallOk P A f vs h r ∧ (A.pure f = true → r.1.clean = true ∨ ∃ e xs, r.1 = .lst e .own xs ∧ cleanL xs = true) ∧ (∃ fn c, P.funcs[f]? = some fn ∧ fn.body = some c) ∧ (A.ret f ≠ .own → r.1.noOwn = true) := by
  unfold body at hb
  split at hb
  · cases hb
  · rename_i fn hfn
    split at hb
    · cases hb
    · rename_i c hc
      split at hb
      · rename_i hle
        -- what the end of the body gives, in whatever state
        have fine : ∀ {e : Ex} {st' : St}, leaveK P A f fn h.length e st' = some r → (e = .normal ∨ e = .ret) ∧ resK P st' fn.results.toList [] (fin A f h.length st'.h) = some r := by
          intro e st' he
          cases e with
          | normal => exact ⟨.inl rfl, he⟩
          | exit j => cases he
          | ret => exact ⟨.inr rfl, he⟩
        have main : ∀ (g : G) (w : World) (args : Array Value) (l : Nat ⊕ (Nat × Nat)), BX P g w h → WG g w → GlobOk P A g w → vs.length = args.size →
            (∀ (i : Nat) (v : V) (c : Value), vs[i]? = some v → args[i]? = some c → VR P g w v c) → noOwnL vs = true →
            Calls P f args w fun e w' => ∃ c g', e = .returned c ∧ Ext g w g' w' ∧ VR P g' w' r.1 c ∧ (∀ e xs, r.1 = .lst e .own xs → Own P g' w' e xs.length c l) ∧ ((∃ e xs, r.1 = .lst e .own xs) ∨ r.1.noOwn = true) ∧
              BX P g' w' r.2 ∧ WG g' w' ∧ GlobOk P A g' w' := by
          intro g w args l B W Gl hlen hv hno
          refine calls_of_wp hfn hc ?_
          let tm : Array Value := args ++ Array.replicate (fn.ntmps - args.size) undef
          have hsz : tm.size = fn.ntmps := by simp only [tm, Array.size_append, Array.size_replicate]; omega
          have hget : ∀ i, (⟨enum 0 vs, h⟩ : St).get i = (vs[i]?).getD .undef := by
            intro i
            simp only [St.get]
            rw [look_enum]; simp
          have S0 : SR P A g w ⟨enum 0 vs, h⟩ tm := by
            refine ⟨fun i => ?_, fun i e xs hi => ?_, fun i => .inr ?_, B, W, Gl⟩
            · rw [hget]
              cases hvi : vs[i]? with
              | none => exact .dead _
              | some v =>
                have hlt := lt_of_get hvi
                have hia : i < args.size := by rw [← hlen]; exact hlt
                have e1 : tm.getD i undef = args[i] := by
                  rw [Array.getD_eq_getD_getElem?]
                  simp only [tm]
                  rw [Array.getElem?_append_left hia, Array.getElem?_eq_getElem hia]; rfl
                rw [e1]
                exact hv i v _ hvi (Array.getElem?_eq_getElem hia)
            · rw [hget] at hi
              cases hvi : vs[i]? with
              | none => rw [hvi] at hi; cases hi
              | some v =>
                rw [hvi] at hi
                have := noOwnL_get hno hvi
                simp only [Option.getD_some] at hi
                rw [hi] at this; simp [V.noOwn] at this
            · rw [hget]
              cases hvi : vs[i]? with
              | none => rfl
              | some v => exact noOwnL_get hno hvi
          have N0 : NO (S f) ⟨enum 0 vs, h⟩ := by
            intro i e xs hi
            rcases S0.nown i with ⟨e', xs', hh⟩ | hh
            · have := S0.own i e' xs' hh
              rw [hget] at hh
              cases hvi : vs[i]? with
              | none => rw [hvi] at hh; cases hh
              | some v =>
                rw [hvi] at hh
                have := noOwnL_get hno hvi
                simp only [Option.getD_some] at hh
                rw [hh] at this; simp [V.noOwn] at this
            · rw [hi] at hh; simp [V.noOwn] at hh
          refine exec_sim L FO HO HL hm c 0 _ { tmps := tm, defers := [] } g w _ (hS f fn c hfn hc) hsz S0 N0 hb _ fun e st' a' w' hk A' => ?_
          obtain ⟨⟨g', E, S'⟩, N', h1, h2⟩ := A'
          obtain ⟨he, hres⟩ := fine hk
          obtain ⟨cv, v, hrun, hfin, hRR, hown⟩ := results_sim L S' hres
          obtain ⟨g2, E2, q1, q2, q3, q4, q5, q6, _⟩ := fin_sim L FO l B W E S' hRR hown hfin
          have hpost : a'.defers = [] ∧ ∃ v, (results fn a'.tmps).run P w' = .ok v w' ∧ ∃ c g', Ending.returned v = .returned c ∧ Ext g w g' w' ∧ VR P g' w' r.1 c ∧ (∀ e xs, r.1 = .lst e .own xs → Own P g' w' e xs.length c l) ∧ ((∃ e xs, r.1 = .lst e .own xs) ∨ r.1.noOwn = true) ∧
              BX P g' w' r.2 ∧ WG g' w' ∧ GlobOk P A g' w' := ⟨h2, cv, hrun, cv, g2, rfl, E2, q1, q2, q3, q4, q5, q6⟩
          rcases he with rfl | rfl
          · exact hpost
          · exact hpost
        refine ⟨fun g w args l B W Gl _ hlen hv hno => main g w args l B W Gl hlen hv hno, fun hp => ?_, ⟨fn, c, hfn, hc⟩, fun hno => ?_⟩
        all_goals
          have ex : ∀ (c : Code) (blk : Nat) (st : St), exec P A O f blk c st (leaveK P A f fn h.length) = some r → ∃ e st', leaveK P A f fn h.length e st' = some r := by
            intro c blk st hx
            have hb2 := exec_bind (P := P) (A := A) (O := O) f (fun (p : Ex × St) => leaveK P A f fn h.length p.1 p.2) c blk st (fun e st => some (e, st))
            simp only [Option.bind_some] at hb2
            rw [hx] at hb2
            obtain ⟨p, _, hp⟩ := Option.bind_eq_some_iff.1 hb2
            exact ⟨_, _, hp⟩
          obtain ⟨e, st', hk⟩ := ex _ _ _ hb
          obtain ⟨_, hres⟩ := fine hk
          obtain ⟨us, _, hh⟩ := resK_spec _ _ hres
          have hf : ∃ v, fin A f h.length st'.h v = some r := by
            rcases hh with ⟨v, _, hv⟩ | ⟨_, _, hv⟩
            · exact ⟨v, hv⟩
            · exact ⟨_, hv⟩
          obtain ⟨v, hf⟩ := hf
          unfold fin at hf
        -- what is handed back without boxes is clean
        · have hret := FO.pure f hp
          split at hf
          · unfold finT at hf
            dsimp only at hf
            split at hf
            · rename_i hok
              simp only [Bool.and_eq_true] at hok
              obtain rfl := Option.some.inj hf
              exact .inl hok.1
            · cases hf
          · unfold finO at hf
            split at hf
            · obtain rfl := Option.some.inj hf; exact .inl rfl
            · obtain rfl := Option.some.inj hf; exact .inl rfl
            · split at hf
              · split at hf
                · split at hf
                  · obtain rfl := Option.some.inj hf; exact .inl rfl
                  · cases hf
                · cases hf
              · cases hf
            · cases hf
          · rename_i hk; exact (hret hk).elim
        · split at hf
          · unfold finT at hf
            dsimp only at hf
            split at hf
            · obtain rfl := Option.some.inj hf
              exact noOwn_norm _
            · cases hf
          · rename_i hr; exact (hno hr).elim
          · unfold finK at hf
            obtain rfl := Option.some.inj hf
            exact noOwn_norm _
      · cases hb

theorem sim_all (L : Lay P) (FO : FnOk P A) (hm : P.follows .mixedOrders = true) (S : FuncId → List Nat) (hS : ∀ f fn c, P.funcs[f]? = some fn → fn.body = some c → chkC P A (S f) fn.ntmps f c = true) : ∀ k, CallsOk P A (orcN P A k) ∧ LoopsOk P A (orcN P A k) := by
  intro k
  induction k with
  | zero => exact ⟨fun f vs h r hr => by simp [orcN, callN] at hr, fun fn blk b st r hr => by simp [orcN, loopN] at hr⟩
  | succ k ih =>
    exact ⟨fun f vs h r hr => call_ok L FO ih.1 ih.2 hm S hS hr, fun fn blk b st r hr => loop_sim L FO ih.1 ih.2 hm hr⟩

end
end AM
end Go.Proofs.YtmjocdbdbofcbaaDoor
end

section
set_option linter.unusedVariables false
namespace Go.Proofs.YtmjocdbdbofcbaaDoor
namespace AM
open Go

/-- the slots of a code that may hold a right to append -/
def ownOp (P : Program) (A : Ann) (fn : FuncId) (rid i : Nat) (o : Oper) : List Nat :=
  if (match o.op with
    | .move _ => isIn i (A.take fn rid)
    | .assign _ => isIn i (A.take fn rid)
    | .load _ _ => isIn i (A.take fn rid)
    | .convert _ d _ => undSlice P d && !isIn i (A.muts fn rid)
    | .makeSlice _ _ _ => !isIn i (A.muts fn rid)
    | .buildSlice _ _ _ => !isIn i (A.muts fn rid)
    | .call { callee := .builtin .append, .. } => !isIn i (A.muts fn rid)
    | .call { callee := .value x, .. } => !retPlain A x && isFn x
    | _ => false) then o.dst.toList else []
def ownRg (P : Program) (A : Ann) (fn : FuncId) (rid : Nat) : Nat → List Oper → List Nat
  | _, [] => []
  | i, o :: os => ownOp P A fn rid i o ++ ownRg P A fn rid (i + 1) os
def ownC (P : Program) (A : Ann) (fn : FuncId) : Code → List Nat
  | .region id os _ => ownRg P A fn id 0 os.toList
  | .seq a b => ownC P A fn a ++ ownC P A fn b
  | .cond _ a b => ownC P A fn a ++ ownC P A fn b
  | .block _ b => ownC P A fn b
  | .loop b => ownC P A fn b
  | _ => []
  termination_by structural c => c
def ownF (P : Program) (A : Ann) (f : FuncId) : List Nat := match P.funcs[f]? with
  | some fn => match fn.body with
    | some c => ownC P A f c
    | none => []
  | none => []

def chkF (P : Program) (A : Ann) (f : FuncId) : Bool := match P.funcs[f]? with
  | some fn => match fn.body with
    | some c => chkC P A (ownF P A f) fn.ntmps f c
    | none => true
  | none => true
def chkAll (P : Program) (A : Ann) : Bool := (List.range P.funcs.size).all (chkF P A)

theorem chkAll_ok {P : Program} {A : Ann} (h : chkAll P A = true) : ∀ f fn c, P.funcs[f]? = some fn → fn.body = some c → chkC P A (ownF P A f) fn.ntmps f c = true := by
  intro f fn c hf hc
  simp only [chkAll, List.all_eq_true, List.mem_range] at h
  have := h f (Array.getElem?_eq_some_iff.1 hf).1
  simp only [chkF, hf, hc] at this
  exact this

def namesOk (P : Program) : Bool := P.funcs.toList.all fun fn => !(fn.name == "runtime.NumGoroutine")
def retsOk (P : Program) (A : Ann) : Bool := (List.range P.funcs.size).all fun f => !A.pure f || (match A.ret f with
  | .keep => false
  | _ => true)

/-- what AM computes is what every run does -/
theorem calls_of_am {P : Program} {A : Ann} (L : Lay P) (FO : FnOk P A) (hm : P.follows .mixedOrders = true) (hc : chkAll P A = true) {f : FuncId} {vs h : List V} {r : V × List V} (hr : callW P A f vs h = some r) : CallOk P A f vs h r := by
  obtain ⟨k, hk⟩ := callW_run.1 hr
  exact ((sim_all L FO hm (ownF P A) (chkAll_ok hc) k).1 f vs h r hk).1

end AM
end Go.Proofs.YtmjocdbdbofcbaaDoor
end
