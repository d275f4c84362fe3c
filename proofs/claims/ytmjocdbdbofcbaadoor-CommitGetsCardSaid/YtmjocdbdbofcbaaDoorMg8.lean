/-
  Part of the proof of a statement about the given program: an abstract machine over its code, the simulation, its functions' equations, what they compute.
-/
import Derived.Sort.Defs
import Derived.Test.YtmjocdbdbofcbaaDoorMg4
import Derived.Test.YtmjocdbdbofcbaaDoorMg7
section
set_option linter.unusedVariables false
set_option linter.unusedSimpArgs false
set_option maxRecDepth 100000
namespace Go.Proofs.YtmjocdbdbofcbaaDoor
open Go AM

instance : Inhabited Msg := ⟨⟨0, 0, 0⟩⟩
def cmpI3 (a b : Int) : Int := if a < b then -1 else if b < a then 1 else 0
def or3 (a b c : Int) : Int := if a ≠ 0 then a else if b ≠ 0 then b else c
def cmpM (x y : Msg) : Int := or3 (cmpI3 x.to y.to) (cmpI3 x.fr y.fr) (cmpI3 x.val y.val)
def ltM (x y : Msg) : Bool := decide (cmpM x y < 0)

theorem gtrT {B : Type} {k : IntKind} {a b : Int} (h : b < a) (K : V → Option B) : (bin .gtr (.int k a) (.int k b)).bind K = K (.bool true) := by
  rw [b_gtr, Option.bind_some, decide_eq_true h]
theorem gtrF {B : Type} {k : IntKind} {a b : Int} (h : ¬ b < a) (K : V → Option B) : (bin .gtr (.int k a) (.int k b)).bind K = K (.bool false) := by
  rw [b_gtr, Option.bind_some, decide_eq_false h]
theorem leqT {B : Type} {k : IntKind} {a b : Int} (h : a ≤ b) (K : V → Option B) : (bin .leq (.int k a) (.int k b)).bind K = K (.bool true) := by
  rw [b_leq, Option.bind_some, decide_eq_true h]
theorem leqF {B : Type} {k : IntKind} {a b : Int} (h : ¬ a ≤ b) (K : V → Option B) : (bin .leq (.int k a) (.int k b)).bind K = K (.bool false) := by
  rw [b_leq, Option.bind_some, decide_eq_false h]
theorem notT {B : Type} (b : Bool) (K : V → Option B) : (un .not (.bool b)).bind K = K (.bool (!b)) := rfl

theorem nan85 (x : Int) : Cl 105 [.int .i64 x] [] = some (.bool false, []) := by
  rw [f105_eq, f105_r0, f105_r1]
  refine (neqF (by simp) _).trans ?_
  rfl
theorem nan86 (x : Int) : Cl 106 [.int .i64 x] [] = some (.bool false, []) := by
  rw [f106_eq, f106_r0, f106_r1]
  refine (neqF (by simp) _).trans ?_
  rfl
theorem cmp85 (x y : Int) : Cl 85 [.int .i64 x, .int .i64 y] [] = some (.int .i64 (cmpI3 x y), []) := by
  rw [f85_eq, f85_r0, f85_r1]
  refine (bstep (nan85 x) _).trans ?_
  rw [f85_r2]
  refine (bstep (nan85 y) _).trans ?_
  simp only [f85_r3, f85_r7, ite_ff, f85_r9, cmpI3]
  by_cases h : x < y
  · refine (lssT h _).trans ?_
    rw [if_pos h]; rfl
  · refine (lssF h _).trans ?_
    rw [if_neg h, ite_ff, f85_r11]
    by_cases h2 : y < x
    · refine (gtrT h2 _).trans ?_
      rw [if_pos h2]; rfl
    · refine (gtrF h2 _).trans ?_
      rw [if_neg h2]; rfl
theorem cmp86 (x y : Int) : Cl 86 [.int .i64 x, .int .i64 y] [] = some (.int .i64 (cmpI3 x y), []) := by
  rw [f86_eq, f86_r0, f86_r1]
  refine (bstep (nan86 x) _).trans ?_
  rw [f86_r2]
  refine (bstep (nan86 y) _).trans ?_
  simp only [f86_r3, f86_r7, ite_ff, f86_r9, cmpI3]
  by_cases h : x < y
  · refine (lssT h _).trans ?_
    rw [if_pos h]; rfl
  · refine (lssF h _).trans ?_
    rw [if_neg h, ite_ff, f86_r11]
    by_cases h2 : y < x
    · refine (gtrT h2 _).trans ?_
      rw [if_pos h2]; rfl
    · refine (gtrF h2 _).trans ?_
      rw [if_neg h2]; rfl

def iL (f : Fl) (l : List Int) : V := .lst 3 f (l.map (.int .i64))
theorem or_am (f : Fl) (a b c : Int) : Cl 84 [iL f [a, b, c]] [] = some (.int .i64 (or3 a b c), []) := by
  have len : ∀ K : V → Option (V × List V), (lenV P 83 (iL f [a, b, c])).bind K = K (.int .i64 3) := fun K => lenL und_83 K
  have at0 : ∀ K : V → Option (V × List V), (indexA P 83 (iL f [a, b, c]) (.int .i64 0)).bind (fun t => (ldP [] 3 t).bind K) = K (.int .i64 a) := fun K => (idxL (i := 0) K_83 rfl _).trans (ldR K)
  have at1 : ∀ K : V → Option (V × List V), (indexA P 83 (iL f [a, b, c]) (.int .i64 1)).bind (fun t => (ldP [] 3 t).bind K) = K (.int .i64 b) := fun K => (idxL (i := 1) K_83 rfl _).trans (ldR K)
  have at2 : ∀ K : V → Option (V × List V), (indexA P 83 (iL f [a, b, c]) (.int .i64 2)).bind (fun t => (ldP [] 3 t).bind K) = K (.int .i64 c) := fun K => (idxL (i := 2) K_83 rfl _).trans (ldR K)
  rw [f84_eq, f84_r0, f84_r1, f84_r2]
  refine (len _).trans ?_
  rw [f84_l0_eq, f84_r3]
  refine (lssT (by omega) _).trans ?_
  rw [ite_tt, f84_r4]
  refine (at0 _).trans ?_
  rw [f84_r5]
  by_cases ha : a ≠ 0
  · refine (neqT ha _).trans ?_
    rw [ite_tt, or3, if_pos ha]; rfl
  refine (neqF ha _).trans ?_
  rw [ite_ff, f84_r7, or3, if_neg ha]
  refine (addT (a := 0) (b := 1) (by omega) _).trans ?_
  rw [f84_l0_eq, f84_r3]
  refine (lssT (by omega) _).trans ?_
  rw [ite_tt, f84_r4]
  refine (at1 _).trans ?_
  rw [f84_r5]
  by_cases hb : b ≠ 0
  · refine (neqT hb _).trans ?_
    rw [ite_tt, if_pos hb]; rfl
  refine (neqF hb _).trans ?_
  rw [ite_ff, f84_r7, if_neg hb]
  refine (addT (a := 1) (b := 1) (by omega) _).trans ?_
  rw [f84_l0_eq, f84_r3]
  refine (lssT (by omega) _).trans ?_
  rw [ite_tt, f84_r4]
  refine (at2 _).trans ?_
  rw [f84_r5]
  by_cases hc : c ≠ 0
  · refine (neqT hc _).trans ?_
    rw [ite_tt]; rfl
  refine (neqF hc _).trans ?_
  rw [ite_ff, f84_r7]
  refine (addT (a := 2) (b := 1) (by omega) _).trans ?_
  rw [f84_l0_eq, f84_r3]
  refine (lssF (by omega) _).trans ?_
  have : c = 0 := by omega
  subst this
  rfl

theorem tyMsg (m : Msg) : tyOk P 38 (vMsg m) = true := by simp [tyOk, K_38, vMsg]
theorem unMsg (n : Nat) (m : Msg) : (vMsg m).under n = true := rfl
theorem fM {B : Type} {id : Nat} (j : Nat) {u : TypeId} {p : List Nat} (hj : [3, 3, 2][j]? = some u) (hu : P.cellsOf u ≠ 0) (K : V → Option B) : (fieldA P 38 j (.ref id p 38)).bind K = K (.ref id (p ++ [j]) u) :=
  bstep (fieldA_ref (P := P) K_38 hj hu id p) K
/-- a field of a message in a box -/
theorem msgF {B : Type} {h : List V} {id : Nat} {m : Msg} {x : Int} (j : Nat) (u : TypeId) (hj : [3, 3, 2][j]? = some u) (hu : P.cellsOf u ≠ 0) (hh : h[id]? = some (vMsg m)) (hx : [V.int .i64 m.fr, V.int .i64 m.to, V.int .i64 m.val][j]? = some (.int .i64 x)) (K : V → Option B) :
    (fieldA P 38 j (.ref id [] 38)).bind (fun t => (ldP h u t).bind K) = K (.int .i64 x) := by
  refine (fM j hj hu _).trans ?_
  exact bstep (ldP_ref (rd_agg hh hx)) K
theorem msgFr {B : Type} {h : List V} {id : Nat} {m : Msg} (hh : h[id]? = some (vMsg m)) (K : V → Option B) : (fieldA P 38 0 (.ref id [] 38)).bind (fun t => (ldP h 3 t).bind K) = K (.int .i64 m.fr) := msgF 0 _ rfl (by rw [cel_3]; decide) hh rfl K
theorem msgTo {B : Type} {h : List V} {id : Nat} {m : Msg} (hh : h[id]? = some (vMsg m)) (K : V → Option B) : (fieldA P 38 1 (.ref id [] 38)).bind (fun t => (ldP h 3 t).bind K) = K (.int .i64 m.to) := msgF 1 _ rfl (by rw [cel_3]; decide) hh rfl K
theorem msgVal {B : Type} {h : List V} {id : Nat} {m : Msg} (hh : h[id]? = some (vMsg m)) (K : V → Option B) : (fieldA P 38 2 (.ref id [] 38)).bind (fun t => (ldP h 2 t).bind K) = K (.int .i64 m.val) := msgF 2 _ rfl (by rw [cel_2]; decide) hh rfl K

theorem bld3I (a b c : Int) : bldS P 83 3 [(0, .int .i64 a), (1, .int .i64 b), (2, .int .i64 c)] = some (iL .own [a, b, c]) := by
  simp [bldS, K_83, setParts, tyOk, K_3, scalOk, und_3, cp, hs_3, iL, List.replicate, cleanL, V.clean, nrmL]

theorem compare_am (x y : Msg) : Cl 70 [vMsg x, vMsg y] [] = some (.int .i64 (cmpM x y), []) := by
  have c1 : (tyOk P 38 (vMsg x) && V.under (List.length ([] : List V)) (vMsg x)) = true := by rw [tyMsg, unMsg]; rfl
  have c2 : (tyOk P 38 (vMsg y) && V.under (List.length (([] : List V) ++ [vMsg x])) (vMsg y)) = true := by rw [tyMsg, unMsg]; rfl
  have g0 : (([] ++ [vMsg x]) ++ [vMsg y] : List V)[0]? = some (vMsg x) := rfl
  have g1 : (([] ++ [vMsg x]) ++ [vMsg y] : List V)[1]? = some (vMsg y) := rfl
  rw [f70_eq, f70_r0, if_pos c1, if_pos c2, f70_r1]
  refine (msgTo g0 _).trans <| (msgTo g1 _).trans <| (bstep (cmp85 _ _) _).trans ?_
  refine (msgFr g0 _).trans <| (msgFr g1 _).trans <| (bstep (cmp85 _ _) _).trans ?_
  refine (msgVal g0 _).trans <| (msgVal g1 _).trans <| (bstep (cmp86 _ _) _).trans ?_
  refine (bstep (bld3I _ _ _) _).trans <| (bstep (or_am .sh _ _ _) _).trans ?_
  rfl

/-- the comparison, called by the sort -/
theorem cmpV {B : Type} {h : List V} (x y : Msg) (K : V → List V → Option B) :
    callV P ann W (.clo 70 []) [vMsg x, vMsg y] h (fun t h1 => if V.noOwn t = true then (bin .lss t (.int .i64 0)).bind (fun b => K b h1) else none) = K (.bool (ltM x y)) h := by
  rw [callV_p _ (by kernel_rfl) (by kernel_rfl)]
  have e : reifyL h ([vMsg x, vMsg y] ++ []) = [vMsg x, vMsg y] := rfl
  rw [e]
  refine (bstep (compare_am x y) _).trans ?_
  show (if true = true then _ else none) = _
  rw [if_pos rfl, b_lss]; rfl

/-! ### a window of messages -/
def rowM (d : Array Msg) : V := .row 38 (d.toList.map vMsg)
def winM (id n : Nat) : V := .win id [] 0 n 38
theorem rowM_get {d : Array Msg} {i : Nat} (hi : i < d.size) : (d.toList.map vMsg)[i]? = some (vMsg d[i]!) := by
  simp [hi]
theorem rowM_set (d : Array Msg) (i : Nat) (m : Msg) : (d.toList.map vMsg).set i (vMsg m) = (d.setIfInBounds i m).toList.map vMsg := by
  simp [List.map_set]
theorem ixM {id n i : Nat} (hi : i < n) : indexA P 23 (V.weak (winM id n)) (.int .i64 (i : Int)) = some (.ref id [i] 38) := by
  have : inside (i : Int) n = true := by simp [inside, hi]
  simp [indexA, winM, V.weak, K_23, this]
theorem atM {B : Type} {h : List V} {id n i : Nat} {d : Array Msg} (hh : h[id]? = some (rowM d)) (hn : n = d.size) (hi : i < n) (K : V → Option B) :
    (indexA P 23 (V.weak (winM id n)) (.int .i64 (i : Int))).bind (fun a => (ldP h 38 a).bind K) = K (vMsg d[i]!) := by
  refine (bstep (ixM hi) _).trans ?_
  exact bstep (ldP_ref (rd_row hh (rowM_get (by omega)))) K
theorem stM {B : Type} {h : List V} {id n i : Nat} {d : Array Msg} (hh : h[id]? = some (rowM d)) (hn : n = d.size) (hi : i < n) (m : Msg) (K : List V → Option B) :
    (indexA P 23 (V.weak (winM id n)) (.int .i64 (i : Int))).bind (fun a => (sto P h 38 a (vMsg m)).bind K) = K (h.set id (rowM (d.setIfInBounds i m))) := by
  refine (bstep (ixM hi) _).trans ?_
  refine (bstep (sto_row hh (rowM_get (by omega)) (tyMsg m) rfl) _).trans ?_
  rw [rowM_set]; rfl
/-- two of them are swapped -/
theorem swpT {B : Type} {h : List V} {id n i j : Nat} {d : Array Msg} (hh : h[id]? = some (rowM d)) (hn : n = d.size) (hi : i < n) (hj : j < n) (K : List V → Option B) :
    (indexA P 23 (V.weak (winM id n)) (.int .i64 (j : Int))).bind (fun a => (ldP h 38 a).bind fun x =>
      (indexA P 23 (V.weak (winM id n)) (.int .i64 (i : Int))).bind fun b => (ldP h 38 b).bind fun y =>
      (indexA P 23 (V.weak (winM id n)) (.int .i64 (i : Int))).bind fun c => (sto P h 38 c x).bind fun h1 =>
      (indexA P 23 (V.weak (winM id n)) (.int .i64 (j : Int))).bind fun e => (sto P h1 38 e y).bind K) = K (h.set id (rowM (Sort.swp d i j))) := by
  refine (atM hh hn hj _).trans <| (atM hh hn hi _).trans <| (stM hh hn hi _ _).trans ?_
  refine (stM (get_set _ hh) (by simp [hn]) hj _ _).trans ?_
  rw [List.set_set]; rfl
theorem swp_size (d : Array Msg) (i j : Nat) : (Sort.swp d i j).size = d.size := by simp [Sort.swp]
end Go.Proofs.YtmjocdbdbofcbaaDoor
end
