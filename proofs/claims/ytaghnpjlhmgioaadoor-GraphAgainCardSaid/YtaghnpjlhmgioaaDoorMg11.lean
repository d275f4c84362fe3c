/-
  Part of the proof of a statement about the given program: an abstract machine over its code, the simulation, its functions' equations, what they compute.
-/
import Derived.Sort.Defs
import Derived.Test.YtaghnpjlhmgioaaDoorMg10
import Derived.Test.YtaghnpjlhmgioaaDoorMg5
import Derived.Test.YtaghnpjlhmgioaaDoorMg9
section
set_option linter.unusedVariables false
set_option linter.unusedSimpArgs false
set_option maxRecDepth 100000
namespace Go.Proofs.YtaghnpjlhmgioaaDoor
open Go AM
namespace Ed
structure Edg where
 fr : Nat
 to : Nat
 w : Int
 hf : fr < 64
 ht : to < 64
instance : Inhabited Edg := ⟨⟨0, 0, 0, by omega, by omega⟩⟩
def vEdg (e : Edg) : V := .agg 44 [.int .i64 (e.fr : Int), .int .i64 (e.to : Int), .int .i64 e.w]
def cmpE (x y : Edg) : Int := if x.fr = y.fr then (x.to : Int) - y.to else (x.fr : Int) - y.fr
def ltE (x y : Edg) : Bool := decide (cmpE x y < 0)
theorem gtrT {B : Type} {k : IntKind} {a b : Int} (h : b < a) (K : V → Option B) : (bin .gtr (.int k a) (.int k b)).bind K = K (.bool true) := by
 rw [b_gtr, Option.bind_some, decide_eq_true h]
theorem gtrF {B : Type} {k : IntKind} {a b : Int} (h : ¬ b < a) (K : V → Option B) : (bin .gtr (.int k a) (.int k b)).bind K = K (.bool false) := by
 rw [b_gtr, Option.bind_some, decide_eq_false h]
theorem leqT {B : Type} {k : IntKind} {a b : Int} (h : a ≤ b) (K : V → Option B) : (bin .leq (.int k a) (.int k b)).bind K = K (.bool true) := by
 rw [b_leq, Option.bind_some, decide_eq_true h]
theorem leqF {B : Type} {k : IntKind} {a b : Int} (h : ¬ a ≤ b) (K : V → Option B) : (bin .leq (.int k a) (.int k b)).bind K = K (.bool false) := by
 rw [b_leq, Option.bind_some, decide_eq_false h]
theorem notT {B : Type} (b : Bool) (K : V → Option B) : (un .not (.bool b)).bind K = K (.bool (!b)) := rfl
@[go_sem] theorem pl_vEdg (x : Edg) : (vEdg x).pl = true := (rfl)
@[go_sem] theorem tyG_vEdg (x : Edg) : tyG 44 (vEdg x) = true := tyG_g ..
theorem compare_am (x y : Edg) : Cl 28 [vEdg x, vEdg y] [] = some (.int .i64 (cmpE x y), []) := by
 have h1 := x.hf; have h2 := x.ht; have h3 := y.hf; have h4 := y.ht
 rw [f28_eq, cmpE]
 by_cases h : x.fr = y.fr
 · rw [if_pos h]
   simp only [vEdg]
   simp (disch := first | assumption | omega | (with_reducible rfl) | (simp only [go_sem]; done) | (simp only [go_sem]; omega) | fail) only [↓reduceIte, ↓jn_eq, Nat.reduceAdd, go_sem, h]
 · rw [if_neg h]
   have : ¬ (x.fr : Int) = (y.fr : Int) := by omega
   simp only [vEdg]
   simp (disch := first | assumption | omega | (with_reducible rfl) | (simp only [go_sem]; done) | (simp only [go_sem]; omega) | fail) only [↓reduceIte, ↓jn_eq, Nat.reduceAdd, go_sem]
theorem tyMsg (m : Edg) : tyOk P 45 (vEdg m) = true := by simp [tyOk, K_45, vEdg]
theorem cmpV {B : Type} {h : List V} (x y : Edg) (K : V → List V → Option B) :
 callV P ann W (.clo 28 []) [vEdg x, vEdg y] h (fun t h1 => if V.noOwn t = true then (bin .lss t (.int .i64 0)).bind (fun b => K b h1) else none) = K (.bool (ltE x y)) h := by
 rw [callV_p _ (by kernel_rfl) (by kernel_rfl)]
 have e : reifyL h ([vEdg x, vEdg y] ++ []) = [vEdg x, vEdg y] := rfl
 rw [e]
 refine (bstep (compare_am x y) _).trans ?_
 show (if true = true then _ else none) = _
 rw [if_pos rfl, b_lss]; rfl
def rowM (d : Array Edg) : V := .row 45 (d.toList.map vEdg)
def winM (id n : Nat) : V := .win id [] 0 n 45
theorem rowM_get {d : Array Edg} {i : Nat} (hi : i < d.size) : (d.toList.map vEdg)[i]? = some (vEdg d[i]!) := by
 simp [hi]
theorem rowM_set (d : Array Edg) (i : Nat) (m : Edg) : (d.toList.map vEdg).set i (vEdg m) = (d.setIfInBounds i m).toList.map vEdg := by
 simp [List.map_set]
theorem ixM {id n i : Nat} (hi : i < n) : indexA P 22 (V.weak (winM id n)) (.int .i64 (i : Int)) = some (.ref id [i] 45) := by
 have : inside (i : Int) n = true := by simp [inside, hi]
 simp [indexA, winM, V.weak, K_22, this]
theorem atM {B : Type} {h : List V} {id n i : Nat} {d : Array Edg} (hh : h[id]? = some (rowM d)) (hn : n = d.size) (hi : i < n) (K : V → Option B) :
 (indexA P 22 (V.weak (winM id n)) (.int .i64 (i : Int))).bind (fun a => (ldP h 45 a).bind K) = K (vEdg d[i]!) := by
 refine (bstep (ixM hi) _).trans ?_
 exact bstep (ldP_ref (rd_row hh (rowM_get (by omega)))) K
theorem stM {B : Type} {h : List V} {id n i : Nat} {d : Array Edg} (hh : h[id]? = some (rowM d)) (hn : n = d.size) (hi : i < n) (m : Edg) (K : List V → Option B) :
 (indexA P 22 (V.weak (winM id n)) (.int .i64 (i : Int))).bind (fun a => (sto P h 45 a (vEdg m)).bind K) = K (h.set id (rowM (d.setIfInBounds i m))) := by
 refine (bstep (ixM hi) _).trans ?_
 refine (bstep (sto_row hh (rowM_get (by omega)) (tyMsg m) rfl) _).trans ?_
 rw [rowM_set]; rfl
theorem swpT {B : Type} {h : List V} {id n i j : Nat} {d : Array Edg} (hh : h[id]? = some (rowM d)) (hn : n = d.size) (hi : i < n) (hj : j < n) (K : List V → Option B) :
 (indexA P 22 (V.weak (winM id n)) (.int .i64 (j : Int))).bind (fun a => (ldP h 45 a).bind fun x =>
  (indexA P 22 (V.weak (winM id n)) (.int .i64 (i : Int))).bind fun b => (ldP h 45 b).bind fun y =>
  (indexA P 22 (V.weak (winM id n)) (.int .i64 (i : Int))).bind fun c => (sto P h 45 c x).bind fun h1 =>
  (indexA P 22 (V.weak (winM id n)) (.int .i64 (j : Int))).bind fun e => (sto P h1 45 e y).bind K) = K (h.set id (rowM (Sort.swp d i j))) := by
 refine (atM hh hn hj _).trans <| (atM hh hn hi _).trans <| (stM hh hn hi _ _).trans ?_
 refine (stM (get_set _ hh) (by simp [hn]) hj _ _).trans ?_
 rw [List.set_set]; rfl
theorem swp_size (d : Array Edg) (i j : Nat) : (Sort.swp d i j).size = d.size := by simp [Sort.swp]
end Ed
end Go.Proofs.YtaghnpjlhmgioaaDoor
end
