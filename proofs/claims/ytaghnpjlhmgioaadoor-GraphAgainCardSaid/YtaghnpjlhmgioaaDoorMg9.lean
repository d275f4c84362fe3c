/-
  Part of the proof of a statement about the given program: an abstract machine over its code, the simulation, its functions' equations, what they compute.
-/
import Derived.Attr
import Derived.Test.YtaghnpjlhmgioaaDoorMg3
import Derived.Test.YtaghnpjlhmgioaaDoorMg7
section
set_option linter.unusedVariables false
set_option linter.unusedSimpArgs false
namespace Go.Proofs.YtaghnpjlhmgioaaDoor
namespace AM
open Go
@[congr] theorem bindC {A B : Type} {x y : Option A} (h : x = y) (K : A → Option B) : x.bind K = y.bind K := by rw [h]
@[congr] theorem iteC {B : Type} {x y : V} (h : x = y) (a b : Option B) : V.ite x a b = V.ite y a b := by rw [h]
attribute [go_sem] Option.bind_some
@[go_sem] theorem ite_T {B : Type} (a b : Option B) : V.ite (.bool true) a b = a := (rfl)
@[go_sem] theorem ite_F {B : Type} (a b : Option B) : V.ite (.bool false) a b = b := (rfl)
@[go_sem] theorem ite_yes {B : Type} {p : Bool} (h : p = true) (a b : Option B) : V.ite (.bool p) a b = a := by rw [h]; rfl
@[go_sem] theorem ite_no {B : Type} {p : Bool} (h : ¬ p = true) (a b : Option B) : V.ite (.bool p) a b = b := by cases p <;> first | rfl | exact absurd rfl h
@[go_sem] theorem ite_dec {B : Type} {p : Prop} [Decidable p] (h : p) (a b : Option B) : V.ite (.bool (decide p)) a b = a := by rw [decide_eq_true h]; rfl
@[go_sem] theorem ite_ndec {B : Type} {p : Prop} [Decidable p] (h : ¬ p) (a b : Option B) : V.ite (.bool (decide p)) a b = b := by rw [decide_eq_false h]; rfl
@[go_sem] theorem ite_not {B : Type} (p : Bool) (a b : Option B) : V.ite (.bool (!p)) a b = V.ite (.bool p) b a := by cases p <;> rfl
theorem jn_eq {α β : Type} (k : α) (f : α → β) : jn k f = f k := (rfl)
mutual
def V.pl : V → Bool
 | .bool _ => true
 | .int _ _ => true
 | .str _ => true
 | .nilp => true
 | .nilf => true
 | .nili => true
 | .ifv => true
 | .agg _ fs => plL fs
 | .lst _ .sh xs => plL xs
 | _ => false
 termination_by structural x => x
def plL : List V → Bool
 | [] => true
 | x :: xs => x.pl && plL xs
 termination_by structural x => x
end
@[go_sem] theorem pl_bool (b : Bool) : V.pl (.bool b) = true := (rfl)
@[go_sem] theorem pl_int (k : IntKind) (n : Int) : V.pl (.int k n) = true := (rfl)
@[go_sem] theorem pl_str (s : List UInt8) : V.pl (.str s) = true := (rfl)
@[go_sem] theorem pl_nilp : V.pl .nilp = true := (rfl)
@[go_sem] theorem pl_nili : V.pl .nili = true := (rfl)
@[go_sem] theorem pl_agg (u : TypeId) (fs : List V) : V.pl (.agg u fs) = plL fs := (rfl)
@[go_sem] theorem pl_lst (e : TypeId) (xs : List V) : V.pl (.lst e .sh xs) = plL xs := (rfl)
@[go_sem] theorem plL_nil : plL [] = true := (rfl)
@[go_sem] theorem plL_cons (x : V) (xs : List V) : plL (x :: xs) = (x.pl && plL xs) := (rfl)
theorem plL_all (xs : List V) : plL xs = xs.all V.pl := by
 induction xs with
 | nil => rfl
 | cons x xs ih => simp only [plL, List.all_cons, ih]
theorem plL_map {α : Type} {c : α → V} (h : ∀ a, (c a).pl = true) (l : List α) : plL (l.map c) = true := by
 rw [plL_all]; simp [h]
structure PF (v : V) : Prop where
 weak : v.weak = v
 norm : v.norm = v
 clean : v.clean = true
 reify : ∀ h, v.reify h = v
 unmut : ∀ h, v.unmut h = v
 under : ∀ n, v.under n = true
 over : ∀ n, v.over n = true
 away : ∀ n, v.away n = true
 noOwn : v.noOwn = true
structure PFL (v : List V) : Prop where
 weak : weakL v = v
 norm : normL v = v
 clean : cleanL v = true
 reify : ∀ h, reifyL h v = v
 unmut : ∀ h, unmutL h v = v
 under : ∀ n, underL n v = true
 over : ∀ n, overL n v = true
 away : ∀ n, awayL n v = true
 noOwn : noOwnL v = true
mutual
theorem V.PF : ∀ v : V, v.pl = true → PF v
 | .bool _, _ => ⟨rfl, rfl, rfl, fun _ => rfl, fun _ => rfl, fun _ => rfl, fun _ => rfl, fun _ => rfl, rfl⟩
 | .int _ _, _ => ⟨rfl, rfl, rfl, fun _ => rfl, fun _ => rfl, fun _ => rfl, fun _ => rfl, fun _ => rfl, rfl⟩
 | .str _, _ => ⟨rfl, rfl, rfl, fun _ => rfl, fun _ => rfl, fun _ => rfl, fun _ => rfl, fun _ => rfl, rfl⟩
 | .nilp, _ => ⟨rfl, rfl, rfl, fun _ => rfl, fun _ => rfl, fun _ => rfl, fun _ => rfl, fun _ => rfl, rfl⟩
 | .nilf, _ => ⟨rfl, rfl, rfl, fun _ => rfl, fun _ => rfl, fun _ => rfl, fun _ => rfl, fun _ => rfl, rfl⟩
 | .nili, _ => ⟨rfl, rfl, rfl, fun _ => rfl, fun _ => rfl, fun _ => rfl, fun _ => rfl, fun _ => rfl, rfl⟩
 | .ifv, _ => ⟨rfl, rfl, rfl, fun _ => rfl, fun _ => rfl, fun _ => rfl, fun _ => rfl, fun _ => rfl, rfl⟩
 | .agg u fs, h => by
   have p := V.PFL fs h
   exact ⟨by simp only [V.weak, p.weak], by simp only [V.norm, p.norm], by simp only [V.clean, p.clean], fun h => by simp only [V.reify, p.reify], fun h => by simp only [V.unmut, p.unmut], fun n => by simp only [V.under, p.under], fun n => by simp only [V.over, p.over], fun n => by simp only [V.away, p.away], by simp only [V.noOwn, p.noOwn]⟩
 | .lst e .sh xs, h => ⟨rfl, rfl, rfl, fun _ => rfl, fun _ => rfl, fun _ => rfl, fun _ => rfl, fun _ => rfl, rfl⟩
 | .lst _ .own _, h => by cases h
 | .lst _ .nil _, h => by cases h
 | .lst _ .lent _, h => by cases h
 | .row _ _, h => by cases h
 | .win _ _ _ _ _, h => by cases h
 | .ref _ _ _, h => by cases h
 | .rop _ _, h => by cases h
 | .clo _ _, h => by cases h
 | .tup _, h => by cases h
 | .undef, h => by cases h
theorem V.PFL : ∀ v : List V, plL v = true → PFL v
 | [], _ => ⟨rfl, rfl, rfl, fun _ => rfl, fun _ => rfl, fun _ => rfl, fun _ => rfl, fun _ => rfl, rfl⟩
 | x :: xs, h => by
   simp only [plL, Bool.and_eq_true] at h
   have p := V.PF x h.1; have q := V.PFL xs h.2
   exact ⟨by simp only [weakL, p.weak, q.weak], by simp only [normL, p.norm, q.norm], by simp only [cleanL, p.clean, q.clean, Bool.and_self], fun h => by simp only [reifyL, p.reify, q.reify], fun h => by simp only [unmutL, p.unmut, q.unmut],
    fun n => by simp only [underL, p.under, q.under, Bool.and_self], fun n => by simp only [overL, p.over, q.over, Bool.and_self], fun n => by simp only [awayL, p.away, q.away, Bool.and_self], by simp only [noOwnL, p.noOwn, q.noOwn, Bool.and_self]⟩
end
@[go_sem] theorem weak_pl {v : V} (h : v.pl = true) : v.weak = v := (V.PF v h).weak
@[go_sem] theorem norm_pl {v : V} (h : v.pl = true) : v.norm = v := (V.PF v h).norm
@[go_sem] theorem clean_pl {v : V} (h : v.pl = true) : v.clean = true := (V.PF v h).clean
@[go_sem] theorem reify_pl {v : V} (h : v.pl = true) (hp : List V) : v.reify hp = v := (V.PF v h).reify hp
@[go_sem] theorem unmut_pl {v : V} (h : v.pl = true) (hp : List V) : v.unmut hp = v := (V.PF v h).unmut hp
@[go_sem] theorem under_pl {v : V} (h : v.pl = true) (n : Nat) : v.under n = true := (V.PF v h).under n
@[go_sem] theorem over_pl {v : V} (h : v.pl = true) (n : Nat) : v.over n = true := (V.PF v h).over n
@[go_sem] theorem cleanL_pl {v : List V} (h : plL v = true) : cleanL v = true := (V.PFL v h).clean
@[go_sem] theorem normL_pl {v : List V} (h : plL v = true) : normL v = v := (V.PFL v h).norm
@[go_sem] theorem reifyL_pl {v : List V} (h : plL v = true) (hp : List V) : reifyL hp v = v := (V.PFL v h).reify hp
def Fl.wk : Fl → Fl | .own => .sh | f => f
def Fl.rf : Fl → Fl | .lent => .lent | _ => .sh
@[go_sem] theorem wk_sh : Fl.wk .sh = .sh := (rfl)
@[go_sem] theorem wk_own : Fl.wk .own = .sh := (rfl)
@[go_sem] theorem wk_nil : Fl.wk .nil = .nil := (rfl)
@[go_sem] theorem wk_wk (f : Fl) : f.wk.wk = f.wk := by cases f <;> rfl
@[go_sem] theorem rf_wk (f : Fl) : f.wk.rf = f.rf := by cases f <;> rfl
@[go_sem] theorem rf_rf (f : Fl) : f.rf.rf = f.rf := by cases f <;> rfl
@[go_sem] theorem wk_rf (f : Fl) : f.rf.wk = f.rf := by cases f <;> rfl
@[go_sem] theorem rf_sh : Fl.rf .sh = .sh := (rfl)
@[go_sem] theorem rf_own : Fl.rf .own = .sh := (rfl)
@[go_sem] theorem rf_nil : Fl.rf .nil = .sh := (rfl)
@[go_sem] theorem rf_lent : Fl.rf .lent = .lent := (rfl)
@[go_sem] theorem weak_lst' (e : TypeId) (f : Fl) (xs : List V) : V.weak (.lst e f xs) = .lst e f.wk xs := by cases f <;> rfl
@[go_sem] theorem reify_lst {xs : List V} (h : plL xs = true) (hp : List V) (e : TypeId) (f : Fl) : V.reify hp (.lst e f xs) = .lst e f.rf xs := by
  cases f <;> simp only [V.reify, Fl.rf, (V.PFL xs h).reify]
@[go_sem] theorem norm_lst (e : TypeId) (f : Fl) (xs : List V) : V.norm (.lst e f xs) = .lst e f.rf xs := by cases f <;> rfl
@[go_sem] theorem reifyL_c (h : List V) (x : V) (xs : List V) : reifyL h (x :: xs) = x.reify h :: reifyL h xs := (rfl)
@[go_sem] theorem reifyL_n (h : List V) : reifyL h [] = [] := (rfl)
@[go_sem] theorem normL_c (x : V) (xs : List V) : normL (x :: xs) = x.norm :: normL xs := (rfl)
@[go_sem] theorem normL_n : normL [] = [] := (rfl)
@[go_sem] theorem norm_ref (id : Nat) (p : List Nat) (t : TypeId) : V.norm (.ref id p t) = .ref id p t := (rfl)
@[go_sem] theorem norm_win (id : Nat) (p : List Nat) (o l e : Nat) : V.norm (.win id p o l e) = .win id p o l e := (rfl)
@[go_sem] theorem norm_rop (t : TypeId) (v : V) : V.norm (.rop t v) = .rop t v := (rfl)
@[go_sem] theorem norm_clo (f : FuncId) (cs : List V) : V.norm (.clo f cs) = .clo f cs := (rfl)
@[go_sem] theorem reify_clo (h : List V) (f : FuncId) (cs : List V) : V.reify h (.clo f cs) = .clo f (reifyL h cs) := (rfl)
@[go_sem] theorem reify_agg (h : List V) (u : TypeId) (fs : List V) : V.reify h (.agg u fs) = .agg u (reifyL h fs) := (rfl)
@[go_sem] theorem weak_agg (u : TypeId) (fs : List V) : V.weak (.agg u fs) = .agg u (weakL fs) := (rfl)
@[go_sem] theorem weakL_c (x : V) (xs : List V) : weakL (x :: xs) = x.weak :: weakL xs := (rfl)
@[go_sem] theorem weakL_n : weakL [] = [] := (rfl)
@[go_sem] theorem under_agg (n : Nat) (u : TypeId) (fs : List V) : V.under n (.agg u fs) = underL n fs := (rfl)
@[go_sem] theorem underL_c (n : Nat) (x : V) (xs : List V) : underL n (x :: xs) = (x.under n && underL n xs) := (rfl)
@[go_sem] theorem underL_n (n : Nat) : underL n [] = true := (rfl)
@[go_sem] theorem under_lst {f : Fl} (hf : f ≠ .lent) (n : Nat) (e : TypeId) (xs : List V) : V.under n (.lst e f xs) = true := by cases f <;> first | rfl | exact absurd rfl hf
@[go_sem] theorem under_own (n : Nat) (e : TypeId) (xs : List V) : V.under n (.lst e .own xs) = true := (rfl)
@[go_sem] theorem under_nil (n : Nat) (e : TypeId) (xs : List V) : V.under n (.lst e .nil xs) = true := (rfl)
@[go_sem] theorem under_sh (n : Nat) (e : TypeId) (xs : List V) : V.under n (.lst e .sh xs) = true := (rfl)
@[go_sem] theorem under_ref {id n : Nat} (h : id < n) (p : List Nat) (t : TypeId) : V.under n (.ref id p t) = true := by simp [V.under, h]
@[go_sem] theorem under_win {id n : Nat} (h : id < n) (p : List Nat) (o l e : Nat) : V.under n (.win id p o l e) = true := by simp [V.under, h]
theorem c0 : ((0 : Nat) : Int) = 0 := (rfl)
theorem c1 : ((1 : Nat) : Int) = 1 := (rfl)
@[go_sem] theorem under_clo (n : Nat) (f : FuncId) (xs : List V) : V.under n (.clo f xs) = underL n xs := (rfl)
@[go_sem] theorem clean_own (e : TypeId) (xs : List V) : V.clean (.lst e .own xs) = true := (rfl)
@[go_sem] theorem clean_nil (e : TypeId) (xs : List V) : V.clean (.lst e .nil xs) = true := (rfl)
attribute [go_sem] Bool.and_self Bool.and_true Bool.true_and if_true
@[go_sem] theorem all_nil (ty : V → Bool) : List.all [] ty = true := (rfl)
@[go_sem] theorem all_cons (ty : V → Bool) (x : V) (xs : List V) : List.all (x :: xs) ty = (ty x && List.all xs ty) := (rfl)
@[go_sem] theorem finT_pl {v : V} (h : v.pl = true) (n : Nat) (hp : List V) : finT n hp v = some (v, hp.take n) := by
  have p := V.PF v h
  simp only [finT, p.unmut, p.norm, p.clean, p.over, Bool.and_self, if_true]
@[go_sem] theorem finT_own (n : Nat) (hp : List V) (e : TypeId) (xs : List V) : finT n hp (.lst e .own xs) = some (.lst e .sh xs, hp.take n) := (rfl)
@[go_sem] theorem finT_nil (n : Nat) (hp : List V) (e : TypeId) (xs : List V) : finT n hp (.lst e .nil xs) = some (.lst e .sh xs, hp.take n) := (rfl)
@[go_sem] theorem finT_sh (n : Nat) (hp : List V) (e : TypeId) (xs : List V) : finT n hp (.lst e .sh xs) = some (.lst e .sh xs, hp.take n) := (rfl)
mutual
def V.fok : V → Bool
 | .bool _ => true
 | .int _ _ => true
 | .str _ => true
 | .nilp => true
 | .nilf => true
 | .nili => true
 | .ifv => true
 | .agg _ fs => fokL fs
 | .lst _ .own _ => true
 | .lst _ .nil _ => true
 | .lst _ .sh _ => true
 | _ => false
 termination_by structural x => x
def fokL : List V → Bool
 | [] => true
 | x :: xs => x.fok && fokL xs
 termination_by structural x => x
end
@[go_sem] theorem fok_agg (u : TypeId) (fs : List V) : V.fok (.agg u fs) = fokL fs := (rfl)
@[go_sem] theorem fokL_n : fokL [] = true := (rfl)
@[go_sem] theorem fokL_c (x : V) (xs : List V) : fokL (x :: xs) = (x.fok && fokL xs) := (rfl)
@[go_sem] theorem fok_own (e : TypeId) (xs : List V) : V.fok (.lst e .own xs) = true := (rfl)
@[go_sem] theorem fok_nil (e : TypeId) (xs : List V) : V.fok (.lst e .nil xs) = true := (rfl)
@[go_sem] theorem fok_sh (e : TypeId) (xs : List V) : V.fok (.lst e .sh xs) = true := (rfl)
@[go_sem] theorem norm_agg (u : TypeId) (fs : List V) : V.norm (.agg u fs) = .agg u (normL fs) := (rfl)
mutual
theorem V.fok_pl' : ∀ v : V, v.pl = true → v.fok = true
 | .bool _, _ => rfl
 | .int _ _, _ => rfl
 | .str _, _ => rfl
 | .nilp, _ => rfl
 | .nilf, _ => rfl
 | .nili, _ => rfl
 | .ifv, _ => rfl
 | .agg _ fs, h => fokL_pl' fs h
 | .lst _ .sh _, _ => rfl
 | .lst _ .own _, h => by cases h
 | .lst _ .nil _, h => by cases h
 | .lst _ .lent _, h => by cases h
 | .row _ _, h => by cases h
 | .win _ _ _ _ _, h => by cases h
 | .ref _ _ _, h => by cases h
 | .rop _ _, h => by cases h
 | .clo _ _, h => by cases h
 | .tup _, h => by cases h
 | .undef, h => by cases h
theorem fokL_pl' : ∀ v : List V, plL v = true → fokL v = true
 | [], _ => rfl
 | x :: xs, h => by
   simp only [plL, Bool.and_eq_true] at h
   simp only [fokL, V.fok_pl' x h.1, fokL_pl' xs h.2, Bool.and_self]
end
@[go_sem] theorem fok_pl {v : V} (h : v.pl = true) : v.fok = true := V.fok_pl' v h
mutual
theorem V.fok_all : ∀ v : V, v.fok = true → (∀ hp, v.unmut hp = v) ∧ v.norm.clean = true ∧ (∀ n, v.norm.over n = true) ∧ v.okE = true
 | .bool _, _ => ⟨fun _ => rfl, rfl, fun _ => rfl, rfl⟩
 | .int _ _, _ => ⟨fun _ => rfl, rfl, fun _ => rfl, rfl⟩
 | .str _, _ => ⟨fun _ => rfl, rfl, fun _ => rfl, rfl⟩
 | .nilp, _ => ⟨fun _ => rfl, rfl, fun _ => rfl, rfl⟩
 | .nilf, _ => ⟨fun _ => rfl, rfl, fun _ => rfl, rfl⟩
 | .nili, _ => ⟨fun _ => rfl, rfl, fun _ => rfl, rfl⟩
 | .ifv, _ => ⟨fun _ => rfl, rfl, fun _ => rfl, rfl⟩
 | .agg u fs, h => by
   obtain ⟨a, b, c⟩ := fokL_all fs h
   exact ⟨fun hp => by simp only [V.unmut, a], by simp only [V.norm, V.clean, b], fun n => by simp only [V.norm, V.over, c], rfl⟩
 | .lst _ .own _, _ => ⟨fun _ => rfl, rfl, fun _ => rfl, rfl⟩
 | .lst _ .nil _, _ => ⟨fun _ => rfl, rfl, fun _ => rfl, rfl⟩
 | .lst _ .sh _, _ => ⟨fun _ => rfl, rfl, fun _ => rfl, rfl⟩
 | .lst _ .lent _, h => by cases h
 | .row _ _, h => by cases h
 | .win _ _ _ _ _, h => by cases h
 | .ref _ _ _, h => by cases h
 | .rop _ _, h => by cases h
 | .clo _ _, h => by cases h
 | .tup _, h => by cases h
 | .undef, h => by cases h
theorem fokL_all : ∀ v : List V, fokL v = true → (∀ hp, unmutL hp v = v) ∧ cleanL (normL v) = true ∧ (∀ n, overL n (normL v) = true)
 | [], _ => ⟨fun _ => rfl, rfl, fun _ => rfl⟩
 | x :: xs, h => by
   simp only [fokL, Bool.and_eq_true] at h
   obtain ⟨a, b, c, _⟩ := V.fok_all x h.1; obtain ⟨a', b', c'⟩ := fokL_all xs h.2
   exact ⟨fun hp => by simp only [unmutL, a, a'], by simp only [normL, cleanL, b, b', Bool.and_self], fun n => by simp only [normL, overL, c, c', Bool.and_self]⟩
end
mutual
theorem V.over_norm : ∀ (v : V) (n : Nat), v.norm.over n = v.over n
 | .agg u fs, n => by simp only [V.norm, V.over, overL_norm]
 | .row u fs, n => by simp only [V.norm, V.over, overL_norm]
 | .tup fs, n => by simp only [V.norm, V.over, overL_norm]
 | .lst _ f _, n => by cases f <;> rfl
 | .bool _, _ => rfl
 | .int _ _, _ => rfl
 | .str _, _ => rfl
 | .nilp, _ => rfl
 | .nilf, _ => rfl
 | .nili, _ => rfl
 | .ifv, _ => rfl
 | .win _ _ _ _ _, _ => rfl
 | .ref _ _ _, _ => rfl
 | .rop _ _, _ => rfl
 | .clo _ _, _ => rfl
 | .undef, _ => rfl
theorem overL_norm : ∀ (v : List V) (n : Nat), overL n (normL v) = overL n v
 | [], _ => rfl
 | x :: xs, n => by simp only [normL, overL, V.over_norm x n, overL_norm xs n]
end
@[go_sem] theorem finT_agg {u : TypeId} {fs : List V} (h : fokL fs = true) (n : Nat) (hp : List V) : finT n hp (.agg u fs) = some (.agg u (normL fs), hp.take n) := by
  obtain ⟨a, b, c⟩ := fokL_all fs h
  have ov : ∀ n, overL n fs = true := fun n => by rw [← overL_norm]; exact c n
  simp only [finT, V.unmut, a, V.norm, V.clean, b, V.over, ov, Bool.and_self, if_true]
@[go_sem] theorem finT_1t {a : V} (ha : a.fok = true) (n : Nat) (hp : List V) : finT n hp (V.tup [a]) = some (.tup [a.norm], hp.take n) := by
  obtain ⟨a1, a3, a4, a5⟩ := V.fok_all a ha
  simp only [V.over_norm] at a4
  simp only [finT, V.unmut, unmutL, a1, V.norm, normL, V.clean, cleanL, a3, V.over, overL, a4, Bool.and_self, if_true]
@[go_sem] theorem finT_2 {a b : V} (ha : a.fok = true) (hb : b.fok = true) (n : Nat) (hp : List V) : finT n hp (V.tup [a, b]) = some (.tup [a.norm, b.norm], hp.take n) := by
  obtain ⟨a1, a3, a4, a5⟩ := V.fok_all a ha; obtain ⟨b1, b3, b4, b5⟩ := V.fok_all b hb
  simp only [V.over_norm] at a4 b4
  simp only [finT, V.unmut, unmutL, a1, b1, V.norm, normL, V.clean, cleanL, a3, b3, V.over, overL, a4, b4, Bool.and_self, if_true]
@[go_sem] theorem finT_3 {a b c : V} (ha : a.fok = true) (hb : b.fok = true) (hc : c.fok = true) (n : Nat) (hp : List V) : finT n hp (V.tup [a, b, c]) = some (.tup [a.norm, b.norm, c.norm], hp.take n) := by
  obtain ⟨a1, a3, a4, a5⟩ := V.fok_all a ha; obtain ⟨b1, b3, b4, b5⟩ := V.fok_all b hb; obtain ⟨c1, c3, c4, c5⟩ := V.fok_all c hc
  simp only [V.over_norm] at a4 b4 c4
  simp only [finT, V.unmut, unmutL, a1, b1, c1, V.norm, normL, V.clean, cleanL, a3, b3, c3, V.over, overL, a4, b4, c4, Bool.and_self, if_true]
@[go_sem] theorem finT_0 (n : Nat) (hp : List V) : finT n hp (V.tup []) = some (.tup [], hp.take n) := (rfl)
@[go_sem] theorem okE_fok {v : V} (h : v.fok = true) : v.okE = true := (V.fok_all v h).2.2.2
@[go_sem] theorem finO_own (n : Nat) (hp : List V) (e : TypeId) (xs : List V) : finO n hp (.lst e .own xs) = some (.lst e .own xs, hp.take n) := (rfl)
@[go_sem] theorem finO_nil (n : Nat) (hp : List V) (e : TypeId) (xs : List V) : finO n hp (.lst e .nil xs) = some (.lst e .nil xs, hp.take n) := (rfl)
@[go_sem] theorem ext_0 (a : V) (l : List V) : ext (.tup (a :: l)) 0 = some a := (rfl)
@[go_sem] theorem ext_1 (a b : V) (l : List V) : ext (.tup (a :: b :: l)) 1 = some b := (rfl)
@[go_sem] theorem ext_2 (a b c : V) (l : List V) : ext (.tup (a :: b :: c :: l)) 2 = some c := (rfl)
@[go_sem] theorem ext_3 (a b c d : V) (l : List V) : ext (.tup (a :: b :: c :: d :: l)) 3 = some d := (rfl)
@[go_sem] theorem extS_0 (a : V) (l : List V) : extS (.tup (a :: l)) 0 = some a.weak := (rfl)
@[go_sem] theorem extS_1 (a b : V) (l : List V) : extS (.tup (a :: b :: l)) 1 = some b.weak := (rfl)
@[go_sem] theorem extS_2 (a b c : V) (l : List V) : extS (.tup (a :: b :: c :: l)) 2 = some c.weak := (rfl)
@[go_sem] theorem tyB_b (b : Bool) : tyB (.bool b) = true := (rfl)
@[go_sem] theorem tyI_i (k : IntKind) (n : Int) : tyI k (.int k n) = true := by simp [tyI]
@[go_sem] theorem tyS_s (s : List UInt8) : tyS (.str s) = true := (rfl)
@[go_sem] theorem tyG_g (u : TypeId) (fs : List V) : tyG u (.agg u fs) = true := by simp [tyG]
@[go_sem] theorem tyL_l (e : TypeId) (f : Fl) (xs : List V) : tyL e (.lst e f xs) = true := by simp [tyL]
@[go_sem] theorem tyP_r (id : Nat) (p : List Nat) (t : TypeId) : tyP (.ref id p t) = true := (rfl)
@[go_sem] theorem tyF_c (f : FuncId) (cs : List V) : tyF (.clo f cs) = true := (rfl)
attribute [go_sem] b_lss b_leq b_gtr b_geq b_eql b_neq s_eql s_neq
@[go_sem] theorem un_not (b : Bool) : un .not (.bool b) = some (.bool (!b)) := (rfl)
@[go_sem high] theorem add1 {a : Nat} (h : a + 1 < 4611686018427387904) : bin .add (.int .i64 (a : Int)) (.int .i64 1) = some (.int .i64 ((a + 1 : Nat) : Int)) := by
  rw [b_add, wrap_i64 (by omega) (by omega)]; congr 2
@[go_sem high] theorem addN {a b : Nat} (h : a + b < 4611686018427387904) : bin .add (.int .i64 (a : Int)) (.int .i64 (b : Int)) = some (.int .i64 ((a + b : Nat) : Int)) := by
  rw [b_add, wrap_i64 (by omega) (by omega)]; congr 2
@[go_sem high] theorem sub1 {a : Nat} (h : 1 ≤ a) (h2 : a < 4611686018427387904) : bin .sub (.int .i64 (a : Int)) (.int .i64 1) = some (.int .i64 ((a - 1 : Nat) : Int)) := by
  rw [b_sub, wrap_i64 (by omega) (by omega)]; congr 2; omega
@[go_sem high] theorem subN {a b : Nat} (h : b ≤ a) (h2 : a < 4611686018427387904) : bin .sub (.int .i64 (a : Int)) (.int .i64 (b : Int)) = some (.int .i64 ((a - b : Nat) : Int)) := by
  rw [b_sub, wrap_i64 (by omega) (by omega)]; congr 2; omega
@[go_sem high] theorem uadd1 {a : Nat} (h : a + 1 < 18446744073709551616) : bin .add (.int .u64 (a : Int)) (.int .u64 1) = some (.int .u64 ((a + 1 : Nat) : Int)) := by
  rw [b_add, wrap_u64 (by omega) (by omega)]; congr 2
@[go_sem] theorem add_i {a b : Int} (h1 : -9223372036854775808 ≤ a + b) (h2 : a + b < 9223372036854775808) : bin .add (.int .i64 a) (.int .i64 b) = some (.int .i64 (a + b)) := by rw [b_add, wrap_i64 h1 h2]
@[go_sem] theorem sub_i {a b : Int} (h1 : -9223372036854775808 ≤ a - b) (h2 : a - b < 9223372036854775808) : bin .sub (.int .i64 a) (.int .i64 b) = some (.int .i64 (a - b)) := by rw [b_sub, wrap_i64 h1 h2]
@[go_sem] theorem mul_i {a b : Int} (h1 : -9223372036854775808 ≤ a * b) (h2 : a * b < 9223372036854775808) : bin .mul (.int .i64 a) (.int .i64 b) = some (.int .i64 (a * b)) := by rw [b_mul, wrap_i64 h1 h2]
theorem natDivMod (a b : Nat) : (a : Int).tdiv b = ((a / b : Nat) : Int) ∧ (a : Int).tmod b = ((a % b : Nat) : Int) := ⟨rfl, rfl⟩
@[go_sem] theorem remN {a b : Nat} (h : 0 < b) (k : IntKind) : bin .rem (.int k (a : Int)) (.int k (b : Int)) = some (.int k ((a % b : Nat) : Int)) := by
  rw [b_rem _ _ _ (by omega), (natDivMod a b).2]
@[go_sem] theorem quo2 {a : Nat} (h2 : a < 9223372036854775808) : bin .quo (.int .i64 (a : Int)) (.int .i64 2) = some (.int .i64 ((a / 2 : Nat) : Int)) := by
  rw [b_quo _ _ _ (by omega), show (a : Int).tdiv 2 = ((a / 2 : Nat) : Int) from rfl, wrap_i64 (by omega) (by omega)]
@[go_sem] theorem quoN {a b : Nat} (h : 0 < b) (h2 : a < 9223372036854775808) : bin .quo (.int .i64 (a : Int)) (.int .i64 (b : Int)) = some (.int .i64 ((a / b : Nat) : Int)) := by
  have := Nat.div_le_self a b
  rw [b_quo _ _ _ (by omega), (natDivMod a b).1]
  generalize a / b = q at *
  rw [wrap_i64 (by omega) (by omega)]
@[go_sem high] theorem eq_ss (a : List UInt8) : bin .eql (.str a) (.str a) = some (.bool true) := by rw [s_eql, decide_eq_true rfl]
@[go_sem high] theorem ne_ss (a : List UInt8) : bin .neq (.str a) (.str a) = some (.bool false) := by rw [s_neq]; simp
@[go_sem high] theorem eq_ii (k : IntKind) (a : Int) : bin .eql (.int k a) (.int k a) = some (.bool true) := by rw [b_eql, decide_eq_true rfl]
@[go_sem high] theorem ne_ii (k : IntKind) (a : Int) : bin .neq (.int k a) (.int k a) = some (.bool false) := by rw [b_neq]; simp
@[go_sem] theorem add_s {a b : List UInt8} (h : a.length + b.length ≤ 4611686018427387904) : bin .add (.str a) (.str b) = some (.str (a ++ b)) := s_add a b h
theorem cvI_i64 {k : IntKind} {n : Int} (h1 : -9223372036854775808 ≤ n) (h2 : n < 9223372036854775808) : cvI .i64 (.int k n) = some (.int .i64 n) := by rw [cvI, wrap_i64 h1 h2]
theorem cvI_u64 {k : IntKind} {n : Int} (h1 : 0 ≤ n) (h2 : n < 18446744073709551616) : cvI .u64 (.int k n) = some (.int .u64 n) := by rw [cvI, wrap_u64 h1 h2]
theorem cvI_u8 {k : IntKind} {n : Int} (h1 : 0 ≤ n) (h2 : n < 256) : cvI .u8 (.int k n) = some (.int .u8 n) := by rw [cvI, wrap_u8 h1 h2]
attribute [go_sem] cvI_i64 cvI_u64 cvI_u8
@[go_sem] theorem cvS_s (s : List UInt8) : cvS (.str s) = some (.str s) := (rfl)
@[go_sem] theorem cvB_s {s : List UInt8} (h : s.length ≤ 2147483648) (e : TypeId) : cvB e (.str s) = some (.lst e .own (bytesOf s)) := if_pos h
theorem bytesTo_bytes : ∀ s : List UInt8, bytesTo (bytesOf s) = some s
 | [] => rfl
 | x :: s => by
   have : bytesOf (x :: s) = .int .u8 x.toNat :: bytesOf s := (rfl)
   rw [this]
   simp only [bytesTo, byteOf, bytesTo_bytes s, Int.toNat_natCast, UInt8.ofNat_toNat, Option.bind_some, Option.map_some]
@[go_sem] theorem cvT_b (h : List V) (e : TypeId) (f : Fl) (s : List UInt8) : cvT h (.lst e f (bytesOf s)) = some (.str s) := by simp only [cvT, content, Option.bind_some, bytesTo_bytes, Option.map_some]
@[go_sem] theorem fA_ref (s ft : TypeId) (f id : Nat) (p : List Nat) : fA s ft f (.ref id p s) = some (.ref id (p ++ [f]) ft) := by simp [fA]
@[go_sem] theorem fA_rop (s ft : TypeId) (f : Nat) (u : TypeId) (xs : List V) : fA s ft f (.rop s (.agg u xs)) = (xs[f]?).map (.rop ft) := by simp [fA]
@[go_sem] theorem fV_agg (u : TypeId) (f : Nat) (hs : Bool) (xs : List V) : fV u f hs (.agg u xs) = (xs[f]?).map (cpB hs) := by simp [fV]
@[go_sem] theorem cpB_f (v : V) : cpB false v = v := (rfl)
@[go_sem] theorem cpB_t (v : V) : cpB true v = v.weak := (rfl)
@[go_sem] theorem nlB_f (v : List V) : nlB false v = v := (rfl)
@[go_sem] theorem nlB_t (v : List V) : nlB true v = normL v := (rfl)
@[go_sem] theorem ldP_rop' (h : List V) (t : TypeId) (v : V) : ldP h t (.rop t v) = some v := by simp [ldP]
@[go_sem] theorem ldS_rop' (h : List V) (t : TypeId) (v : V) : ldS h t (.rop t v) = some v.weak := by simp [ldS, ldP]
@[go_sem] theorem ldP_r0 (h : List V) (t : TypeId) (id : Nat) : ldP h t (.ref id [] t) = h[id]? := by
  simp only [ldP, if_true, rd]; cases h[id]? <;> rfl
theorem ldS_r0 (h : List V) (t : TypeId) (id : Nat) : ldS h t (.ref id [] t) = (h[id]?).map V.weak := by rw [ldS, ldP_r0]
@[go_sem] theorem ldP_r1 (h : List V) (t : TypeId) (id i : Nat) : ldP h t (.ref id [i] t) = (h[id]?).bind fun v => V.at [i] v := by simp only [ldP, if_true, rd]
@[go_sem] theorem ldS_r1 (h : List V) (t : TypeId) (id i : Nat) : ldS h t (.ref id [i] t) = ((h[id]?).bind fun v => V.at [i] v).map V.weak := by rw [ldS, ldP_r1]
@[go_sem] theorem at_1 (u i : Nat) (fs : List V) : V.at [i] (.agg u fs) = fs[i]? := by simp only [V.at]; cases fs[i]? <;> rfl
@[go_sem] theorem at_1r (u i : Nat) (fs : List V) : V.at [i] (.row u fs) = fs[i]? := by simp only [V.at]; cases fs[i]? <;> rfl
attribute [go_sem] ldS_r0 List.nil_append List.cons_append List.append_assoc List.length_nil List.length_cons List.length_append List.getElem?_cons_zero List.getElem?_cons_succ Option.map_some List.length_map List.set_cons_zero List.set_cons_succ List.take_zero List.take_succ_cons List.take_nil Nat.zero_add List.length_drop List.length_take List.length_replicate
@[go_sem] theorem notNil_ref (id : Nat) (p : List Nat) (t : TypeId) : notNil (.ref id p t) = some (.ref id p t) := (rfl)
@[go_sem] theorem notNil_rop (t : TypeId) (x : V) : notNil (.rop t x) = some (.rop t x) := (rfl)
@[go_sem] theorem notNil_clo (f : FuncId) (x : List V) : notNil (.clo f x) = some (.clo f x) := (rfl)
@[go_sem] theorem stT_r0 {ty : V → Bool} {h : List V} {id : Nat} {v : V} (hi : id < h.length) (ht : ty v = true) (hu : v.under (id + 1) = true) (t : TypeId) : stT ty t h (.ref id [] t) v = some (h.set id v) := by
  simp only [stT, if_true, ht, hu, Bool.and_self, wr, List.getElem?_eq_getElem hi, Option.bind_some, V.upd, Option.map_some]
@[go_sem] theorem stT_p {ty : V → Bool} {h : List V} {id i : Nat} {v : V} (ht : ty v = true) (hu : v.under (id + 1) = true) (t : TypeId) : stT ty t h (.ref id [i] t) v = (h[id]?).bind fun r => (V.upd [i] r v).map fun r' => h.set id r' := by
  simp only [stT, if_true, ht, hu, Bool.and_self, wr]
@[go_sem] theorem upd_1 {i : Nat} {fs : List V} (h : i < fs.length) (u : TypeId) (v : V) : V.upd [i] (.agg u fs) v = some (.agg u (fs.set i v)) := by
  simp only [V.upd, List.getElem?_eq_getElem h, Option.bind_some, Option.map_some]
@[go_sem] theorem upd_1r {i : Nat} {fs : List V} (h : i < fs.length) (u : TypeId) (v : V) : V.upd [i] (.row u fs) v = some (.row u (fs.set i v)) := by
  simp only [V.upd, List.getElem?_eq_getElem h, Option.bind_some, Option.map_some]
@[go_sem] theorem lnS_s (s : List UInt8) : lnS (.str s) = some (.int .i64 s.length) := (rfl)
@[go_sem] theorem lnL_l (e : TypeId) (f : Fl) (xs : List V) : lnL (.lst e f xs) = some (.int .i64 xs.length) := (rfl)
@[go_sem] theorem lnL_w (id : Nat) (p : List Nat) (o l e : Nat) : lnL (.win id p o l e) = some (.int .i64 l) := (rfl)
@[go_sem] theorem ixS_l (e : TypeId) (f : Fl) (xs : List V) (k : IntKind) (i : Nat) : ixS e (.lst e f xs) (.int k (i : Int)) = (xs[i]?).map (.rop e) := by
  simp only [ixS, inside, decide_true, Bool.true_and]
  by_cases h : i < xs.length
  · simp [h]
  · have : xs[i]? = none := List.getElem?_eq_none (by omega)
    simp [h, this]
@[go_sem] theorem ixS_0 (e : TypeId) (f : Fl) (xs : List V) (k : IntKind) : ixS e (.lst e f xs) (.int k 0) = (xs[0]?).map (.rop e) := ixS_l e f xs k 0
@[go_sem] theorem ixS_1 (e : TypeId) (f : Fl) (xs : List V) (k : IntKind) : ixS e (.lst e f xs) (.int k 1) = (xs[1]?).map (.rop e) := ixS_l e f xs k 1
@[go_sem] theorem ixS_2 (e : TypeId) (f : Fl) (xs : List V) (k : IntKind) : ixS e (.lst e f xs) (.int k 2) = (xs[2]?).map (.rop e) := ixS_l e f xs k 2
@[go_sem] theorem ixS_3 (e : TypeId) (f : Fl) (xs : List V) (k : IntKind) : ixS e (.lst e f xs) (.int k 3) = (xs[3]?).map (.rop e) := ixS_l e f xs k 3
@[go_sem] theorem ixT_s (s : List UInt8) (k : IntKind) (i : Nat) : ixT (.str s) (.int k (i : Int)) = (s[i]?).map fun b => .int .u8 b.toNat := by
  simp only [ixT, inside]
  by_cases h : i < s.length
  · simp [h]
  · have : s[i]? = none := List.getElem?_eq_none (by omega)
    simp [h, this]
@[go_sem] theorem ixT_0 (s : List UInt8) (k : IntKind) : ixT (.str s) (.int k 0) = (s[0]?).map fun b => .int .u8 b.toNat := ixT_s s k 0
@[go_sem] theorem ixA_r {i : Nat} {n : Nat} (h : i < n) (t u e id : Nat) (p : List Nat) (k : IntKind) : ixA t u n e (.ref id p t) (.int k (i : Int)) = some (.ref id (p ++ [i]) e) := by simp [ixA, inside, h]
@[go_sem] theorem slT_lo {s : List UInt8} {i : Nat} (h : i ≤ s.length) (k : IntKind) : slT (.str s) (some (.int k (i : Int))) none = some (.str (s.drop i)) := by simp [slT, bounds, h]
@[go_sem] theorem slT_hi {s : List UInt8} {j : Nat} (h : j ≤ s.length) (k : IntKind) : slT (.str s) none (some (.int k (j : Int))) = some (.str (s.take j)) := by simp [slT, bounds, h]
@[go_sem] theorem slT_lohi {s : List UInt8} {i j : Nat} (h : i ≤ j) (h2 : j ≤ s.length) (k k' : IntKind) : slT (.str s) (some (.int k (i : Int))) (some (.int k' (j : Int))) = some (.str ((s.take j).drop i)) := by simp [slT, bounds, h, h2]
@[go_sem] theorem slL_lo {xs : List V} {i : Nat} (h : i ≤ xs.length) (e : TypeId) (f : Fl) (k : IntKind) : slL e (.lst e f xs) (some (.int k (i : Int))) none none = some (.lst e f.cut (xs.drop i)) := by simp [slL, bounds, h]
@[go_sem] theorem slL_hi {xs : List V} {j : Nat} (h : j ≤ xs.length) (e : TypeId) (f : Fl) (k : IntKind) : slL e (.lst e f xs) none (some (.int k (j : Int))) none = some (.lst e f.cut (xs.take j)) := by simp [slL, bounds, h]
@[go_sem] theorem slL_hm {xs : List V} {j : Nat} (h : j ≤ xs.length) (e : TypeId) (f : Fl) (k k' : IntKind) : slL e (.lst e f xs) none (some (.int k (j : Int))) (some (.int k' (j : Int))) = some (.lst e f.cut (xs.take j)) := by simp [slL, bounds, h]
@[go_sem] theorem cut_sh : Fl.cut .sh = .sh := (rfl)
@[go_sem] theorem cut_own : Fl.cut .own = .sh := (rfl)
@[go_sem] theorem cut_nil : Fl.cut .nil = .nil := (rfl)
@[go_sem] theorem slA_n (t u n e id : Nat) (p : List Nat) : slA t u n e (.ref id p t) none none none = some (.win id p 0 n e) := by simp [slA, bounds]
@[go_sem] theorem ck_n {α : Type} (x : α) : ck [] x = some x := (rfl)
@[go_sem] theorem ck_c {α : Type} {b : Bool} (h : b = true) (bs : List Bool) (x : α) : ck (b :: bs) x = ck bs x := by rw [ck, if_pos h]
@[go_sem] theorem bsL_s {xs : List V} (h : cleanL xs = true) (e : TypeId) (hs : Bool) : bsL e hs (some xs) = some (.lst e .own (nlB hs xs)) := by simp [bsL, h]
@[go_sem] theorem content_lst (h : List V) (e : TypeId) (f : Fl) (xs : List V) : content h (.lst e f xs) = some xs := (rfl)
@[go_sem] theorem apL_own {h : List V} {g : Fl} {ys : List V} {ty : V → Bool} {xs : List V} (hc : cleanL ys = true) (ht : ys.all ty = true) (hl : xs.length + ys.length ≤ 2147483648) (e e' : TypeId) (hs : Bool) :
 apL e ty hs h (.lst e .own xs) (.lst e' g ys) = some (.lst e .own (xs ++ nlB hs ys)) := by
  have hy : content h (.lst e' g ys) = some ys := rfl
  simp [apL, hy, hc, ht, most, hl]
theorem apL_nil {h : List V} {g : Fl} {ys : List V} {ty : V → Bool} {xs : List V} (hc : cleanL ys = true) (ht : ys.all ty = true) (hl : xs.length + ys.length ≤ 2147483648) (hn : ys.isEmpty = false) (e e' : TypeId) (hs : Bool) :
 apL e ty hs h (.lst e .nil xs) (.lst e' g ys) = some (.lst e .own (xs ++ nlB hs ys)) := by
 have hy : content h (.lst e' g ys) = some ys := rfl
 simp [apL, hy, hc, ht, most, hl, hn]
@[go_sem] theorem apL_nil1 {h : List V} {g : Fl} {y : V} {ys : List V} {ty : V → Bool} {xs : List V} (hc : cleanL (y :: ys) = true) (ht : (y :: ys).all ty = true) (hl : xs.length + (y :: ys).length ≤ 2147483648) (e e' : TypeId) (hs : Bool) :
 apL e ty hs h (.lst e .nil xs) (.lst e' g (y :: ys)) = some (.lst e .own (xs ++ nlB hs (y :: ys))) := apL_nil hc ht hl rfl e e' hs
@[go_sem] theorem apL_nil0 {h : List V} {g : Fl} {ty : V → Bool} (e e' : TypeId) (hs : Bool) : apL e ty hs h (.lst e .nil []) (.lst e' g []) = some (.lst e .nil []) := by
  cases hs <;> simp [apL, content, cleanL, most, nlB, normL]
@[go_sem] theorem eqNil_n (e e' : TypeId) : eqNil .eql (.lst e .nil []) (.lst e' .nil []) = some (.bool true) := (rfl)
@[go_sem] theorem eqNil_non (e e' : TypeId) (xs : List V) : eqNil .eql (.lst e .non xs) (.lst e' .nil []) = some (.bool false) := by cases xs <;> rfl
@[go_sem] theorem eqNil_c (e e' : TypeId) (x : V) (xs : List V) : eqNil .eql (.lst e .sh (x :: xs)) (.lst e' .nil []) = some (.bool false) := (rfl)
@[go_sem] theorem wk_non : Fl.wk .non = .non := (rfl)
theorem all_map {α : Type} {c : α → V} {ty : V → Bool} (h : ∀ a, ty (c a) = true) (l : List α) : (l.map c).all ty = true := by simp [h]
@[go_sem] theorem cleanL_n : cleanL [] = true := (rfl)
@[go_sem] theorem cleanL_c (x : V) (xs : List V) : cleanL (x :: xs) = (x.clean && cleanL xs) := (rfl)
@[go_sem] theorem noOwn_b (b : Bool) : V.noOwn (.bool b) = true := (rfl)
@[go_sem] theorem noOwn_i (k : IntKind) (n : Int) : V.noOwn (.int k n) = true := (rfl)
@[go_sem] theorem noOwn_pl {v : V} (h : v.pl = true) : v.noOwn = true := (V.PF v h).noOwn
@[go_sem] theorem eqT_ok {ty : V → Bool} {x y : V} {b : Bool} (hx : ty x = true) (hy : ty y = true) (h : eqv x y = some b) : eqT ty .eql x y = some (.bool b) := by simp [eqT, hx, hy, h]
theorem eqT_bool (a b : Bool) : eqT tyB .eql (.bool a) (.bool b) = some (.bool (a == b)) := by simp [eqT, tyB, eqv]
theorem eqT_nbool (a b : Bool) : eqT tyB .neq (.bool a) (.bool b) = some (.bool (!(a == b))) := by simp [eqT, tyB, eqv]
attribute [go_sem] eqT_bool eqT_nbool
@[go_sem] theorem fldV_0 (id id' k : Nat) (t t' : TypeId) : fldV (.ref id [] t) k (.ref id' [k] t') = true := by simp [fldV]
end AM
end Go.Proofs.YtaghnpjlhmgioaaDoor
end
