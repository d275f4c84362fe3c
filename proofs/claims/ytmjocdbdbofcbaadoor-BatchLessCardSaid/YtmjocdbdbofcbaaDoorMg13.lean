/-
  Part of the proof of a statement about the given program: an abstract machine over its code, the simulation, its functions' equations, what they compute.
-/
import Derived.Test.YtmjocdbdbofcbaaDoorMg11
import Derived.Test.YtmjocdbdbofcbaaDoorMg12
import Derived.Test.YtmjocdbdbofcbaaDoorMg4
section
set_option linter.unusedVariables false
set_option linter.unusedSimpArgs false
set_option linter.unusedSectionVars false
set_option maxRecDepth 100000
namespace Go.Proofs.YtmjocdbdbofcbaaDoor
open Go AM

@[go_sem] theorem pl_A32 (l : List UInt8) : (A32 l).pl = true := plL_bytes l
@[go_sem] theorem tyG_A32 (l : List UInt8) : tyG 32 (A32 l) = true := tyG_g ..
theorem zero32 : V.agg 32 (List.replicate 32 (V.int .u8 0)) = A32 (List.replicate 32 0) := rfl
@[go_sem] theorem plL_strs (l : List (List UInt8)) : plL (l.map V.str) = true := plL_map (fun _ => rfl) l
@[go_sem] theorem tyS_strs (l : List (List UInt8)) : (l.map V.str).all tyS = true := all_map (fun _ => rfl) l
@[go_sem] theorem plL_bs (l : List UInt8) : plL (bytesOf l) = true := plL_bytes l

def halfG (n : Nat) : Nat → Nat → Nat
  | 0, k => k
  | f + 1, k => if 2 * k < n then halfG n f (2 * k) else k
def halfN (n : Nat) : Nat := halfG n 62 1
theorem halfG_lt (n : Nat) : ∀ (f k : Nat), 0 < k → k < n → 0 < halfG n f k ∧ halfG n f k < n
  | 0, k, h, h2 => ⟨h, h2⟩
  | f + 1, k, h, h2 => by
    rw [halfG]; split
    · exact halfG_lt n f (2 * k) (by omega) (by omega)
    · exact ⟨h, h2⟩
theorem pow2 {n k f : Nat} (h : n < k * 2 ^ (f + 1)) : n < 2 * k * 2 ^ f := by
  rw [Nat.pow_succ] at h
  have e : k * (2 ^ f * 2) = 2 * k * 2 ^ f := by rw [Nat.mul_comm 2 k, Nat.mul_assoc, Nat.mul_comm (2 ^ f)]
  omega
theorem half_l0 (n : Nat) (hn : n < 2 ^ 61) : ∀ (f k : Nat), 0 < k → k ≤ n → n < k * 2 ^ f → f80_l0 (iv n) (iv k) = some (iv (halfG n f k), []) := by
  intro f
  induction f with
  | zero => intro k h h2 h3; omega
  | succ f ih =>
    intro k h h2 h3
    rw [f80_l0_eq, halfG]
    have h2' : (2 : Int) * (k : Int) = ((2 * k : Nat) : Int) := by omega
    by_cases hk : 2 * k < n
    · rw [if_pos hk]
      refine (bstep (subN (by omega) (by omega)) _).trans <| (lssT (by omega) _).trans ?_
      rw [ite_tt]
      refine (bstep (mul_i (by omega) (by omega)) _).trans ?_
      rw [show (k : Int) * 2 = ((2 * k : Nat) : Int) by omega]
      exact ih (2 * k) (by omega) (by omega) (pow2 h3)
    · rw [if_neg hk]
      refine (bstep (subN (by omega) (by omega)) _).trans <| (lssF (by omega) _).trans ?_
      rfl
theorem Half_am {n : Nat} (h2 : 2 ≤ n) (hn : n < 2 ^ 61) : Cl 80 [iv n] [] = some (iv (halfN n), []) := by
  rw [f80_eq]
  refine (lssF (by omega) _).trans ?_
  rw [ite_ff]
  exact half_l0 n hn 62 1 (by omega) (by omega) (by omega)
theorem refhalf_l0 (n : Nat) (hn : n < 2 ^ 61) : ∀ (f k : Nat), 0 < k → k ≤ n → n < k * 2 ^ f → f91_l0 (iv n) (iv k) = some (iv (halfG n f k), []) := by
  intro f
  induction f with
  | zero => intro k h h2 h3; omega
  | succ f ih =>
    intro k h h2 h3
    rw [f91_l0_eq, halfG]
    have e : (2 : Int) * (k : Int) = ((2 * k : Nat) : Int) := by omega
    refine (bstep (mul_i (by omega) (by omega)) _).trans ?_
    rw [e]
    by_cases hk : 2 * k < n
    · rw [if_pos hk]
      refine (lssT (by omega) _).trans ?_
      rw [ite_tt]
      refine (bstep (mul_i (by omega) (by omega)) _).trans ?_
      rw [e]
      exact ih (2 * k) (by omega) (by omega) (pow2 h3)
    · rw [if_neg hk]
      refine (lssF (by omega) _).trans ?_
      rfl
theorem refhalf_am {n : Nat} (h2 : 1 ≤ n) (hn : n < 2 ^ 61) : Cl 91 [iv n] [] = some (iv (halfN n), []) := by
  rw [f91_eq]
  exact refhalf_l0 n hn 62 1 (by omega) (by omega) (by omega)

/-! ### nodes -/
def nodeB (a b : List UInt8) : List UInt8 := sha ([1] ++ a ++ b)
theorem Node_am {a b : List UInt8} (ha : a.length = 32) (hb : b.length = 32) : Cl 81 [A32 a, A32 b] [] = some (A32 (nodeB a b), []) := by
  have er : V.reify [A32 a, A32 b, A32 (List.replicate 32 0)] (.lst 55 .lent [bL .sh [1], .win 0 [] 0 32 5, .win 1 [] 0 32 5]) = .lst 55 .lent (parts [(.sh, [1]), (.lent, a), (.lent, b)]) := by
    have w := reify_w (h := [A32 a, A32 b, A32 (List.replicate 32 0)]) (id := 0) (c := a) rfl ha
    have w' := reify_w (h := [A32 a, A32 b, A32 (List.replicate 32 0)]) (id := 1) (c := b) rfl hb
    show V.lst 55 .lent [V.reify _ (bL .sh [1]), V.reify [A32 a, A32 b, A32 (List.replicate 32 0)] (.win 0 [] 0 32 5), V.reify [A32 a, A32 b, A32 (List.replicate 32 0)] (.win 1 [] 0 32 5)] = _
    rw [w, w']; rfl
  have ef : flat [(.sh, [1]), (.lent, a), (.lent, b)] = [1] ++ a ++ b := by simp [flat]
  rw [f81_eq, zero32]
  simp (disch := first | assumption | omega | (with_reducible rfl) | (simp only [go_sem]; done) | (simp only [go_sem]; omega) | fail) only [↓reduceIte, ↓jn_eq, go_sem]
  refine (bstep (show bsL 55 true (some [.lst 5 .sh [.int .u8 1], (V.win 0 [] 0 32 5).weak, (V.win 1 [] 0 32 5).weak]) = some (.lst 55 .lent [bL .sh [1], .win 0 [] 0 32 5, .win 1 [] 0 32 5]) from rfl) _).trans ?_
  rw [er]
  refine (bstep (of_am _ (by simp) .lent (by rw [ef]; simp; omega) (by rw [ef]; simp)) _).trans ?_
  rw [ef]
  simp (disch := first | assumption | omega | (with_reducible rfl) | (simp only [go_sem]; done) | (simp only [go_sem]; omega) | fail) only [↓reduceIte, ↓jn_eq, go_sem]
  rfl
theorem refnode_am {a b : List UInt8} (ha : a.length = 32) (hb : b.length = 32) : Cl 92 [.str a, .str b] [] = some (.str (nodeB a b), []) := by
  rw [f92_eq]
  simp (disch := first | assumption | omega | (with_reducible rfl) | (simp only [go_sem]; done) | (simp only [go_sem]; omega) | fail) only [↓reduceIte, ↓jn_eq, go_sem, refOf_am]
  rfl

/-! ### tops -/
def topF : Nat → List (List UInt8) → List UInt8
  | 0, _ => sha [2]
  | f + 1, l => if l.length = 0 then sha [2] else if l.length = 1 then sha (0 :: l.getD 0 []) else nodeB (topF f (l.take (halfN l.length))) (topF f (l.drop (halfN l.length)))
theorem topF_len : ∀ (f : Nat) (l : List (List UInt8)), (topF f l).length = 32
  | 0, _ => sha_len _
  | f + 1, l => by rw [topF]; split; · exact sha_len _
                   split <;> exact sha_len _
def Short (l : List (List UInt8)) : Prop := ∀ s ∈ l, s.length < 2147000000
theorem Short.take {l : List (List UInt8)} (h : Short l) (n : Nat) : Short (l.take n) := fun s hs => h s (List.mem_of_mem_take hs)
theorem Short.drop {l : List (List UInt8)} (h : Short l) (n : Nat) : Short (l.drop n) := fun s hs => h s (List.mem_of_mem_drop hs)

theorem of0 {x : Nat} (hx : x < 256) {g : Fl} : Cl 78 [.lst 55 g [.lst 5 .sh [.int .u8 (x : Int)]]] [] = some (A32 (sha [UInt8.ofNat x]), []) := by
  have e : [V.lst 5 .sh [.int .u8 (x : Int)]] = parts [(.sh, [UInt8.ofNat x])] := by
    simp only [parts, part, List.map_cons, List.map_nil, bL, bytesOf]
    rw [UInt8.toNat_ofNat', Nat.mod_eq_of_lt (by omega)]
  rw [e, of_am _ (by simp) g (by simp [flat]) (by simp [flat])]
  simp [flat]

theorem halfN_lt {n : Nat} (h : 2 ≤ n) : 0 < halfN n ∧ halfN n < n := halfG_lt n 62 1 (by omega) (by omega)
theorem Top_am : ∀ (f : Nat) (l : List (List UInt8)) (g : Fl), l.length ≤ f → f < 2000000000 → Short l → Cl 68 [.lst 9 g (l.map V.str)] [] = some (A32 (topF f l), []) := by
  intro f
  induction f with
  | zero =>
    intro l g hl _ _
    have : l = [] := List.eq_nil_of_length_eq_zero (by omega)
    subst this
    rw [f68_eq, zero32, topF]
    simp (disch := first | assumption | omega | (with_reducible rfl) | (simp only [go_sem]; done) | (simp only [go_sem]; omega) | fail) only [↓reduceIte, ↓jn_eq, go_sem, List.map_nil]
    refine (bstep (of0 (x := 2) (by omega)) _).trans ?_
    simp (disch := first | assumption | omega | (with_reducible rfl) | (simp only [go_sem]; done) | (simp only [go_sem]; omega) | fail) only [↓reduceIte, ↓jn_eq, go_sem]
    rfl
  | succ f ih =>
    intro l g hl hf hs
    rw [f68_eq, zero32, topF]
    by_cases h0 : l.length = 0
    · simp (disch := first | assumption | omega | (with_reducible rfl) | (simp only [go_sem]; done) | (simp only [go_sem]; omega) | fail) only [↓reduceIte, ↓jn_eq, go_sem, h0]
      refine (bstep (of0 (x := 2) (by omega)) _).trans ?_
      simp (disch := first | assumption | omega | (with_reducible rfl) | (simp only [go_sem]; done) | (simp only [go_sem]; omega) | fail) only [↓reduceIte, ↓jn_eq, go_sem]
      rfl
    by_cases h1 : l.length = 1
    · have hg : l[0]? = some (l.getD 0 []) := by rw [List.getD_eq_getElem?_getD, List.getElem?_eq_getElem (by omega)]; rfl
      have hm : (l.getD 0 []).length < 2147000000 := hs _ (List.mem_of_getElem? hg)
      simp (disch := first | assumption | omega | (with_reducible rfl) | (simp only [go_sem]; done) | (simp only [go_sem]; omega) | fail) only [↓reduceIte, ↓jn_eq, go_sem, h0, h1, List.getElem?_map, hg, Leaf_am hm]
      rfl
    have hh := halfN_lt (n := l.length) (by omega)
    have hx : ∀ g, Cl 68 [.lst 9 g ((l.take (halfN l.length)).map V.str)] [] = _ := fun g => ih _ g (by simp; omega) (by omega) (hs.take _)
    have hy : ∀ g, Cl 68 [.lst 9 g ((l.drop (halfN l.length)).map V.str)] [] = _ := fun g => ih _ g (by simp; omega) (by omega) (hs.drop _)
    simp (disch := first | assumption | omega | (with_reducible rfl) | (simp only [go_sem]; done) | (simp only [go_sem]; omega) | fail) only [↓reduceIte, ↓jn_eq, go_sem, h0, h1, Half_am (n := l.length) (by omega) (by omega), ← List.map_take, ← List.map_drop, hx, hy, Node_am (topF_len _ _) (topF_len _ _)]
def treeB (l : List (List UInt8)) : List UInt8 := rootB l.length (topF l.length l)
theorem rootB_len (n : Nat) (t : List UInt8) : (rootB n t).length = 32 := sha_len _
theorem Root_am {g : Fl} {l : List (List UInt8)} (hl : l.length < 1000000000) (hs : Short l) : Cl 48 [.lst 9 g (l.map V.str)] [] = some (A32 (treeB l), []) := by
  have h := fun g => Top_am l.length l g (Nat.le_refl _) (by omega) hs
  rw [f48_eq, zero32]
  simp (disch := first | assumption | omega | (with_reducible rfl) | (simp only [go_sem]; done) | (simp only [go_sem]; omega) | fail) only [↓reduceIte, ↓jn_eq, go_sem, h, root_am (n := l.length) hl (topF_len _ _)]
  rfl

theorem reftop_am : ∀ (f : Nat) (l : List (List UInt8)) (g : Fl), l.length ≤ f → f < 2000000000 → Short l → Cl 75 [.lst 9 g (l.map V.str)] [] = some (.str (topF f l), []) := by
  intro f
  induction f with
  | zero =>
    intro l g hl _ _
    have : l = [] := List.eq_nil_of_length_eq_zero (by omega)
    subst this
    rw [f75_eq, topF]
    simp (disch := first | assumption | omega | (with_reducible rfl) | (simp only [go_sem]; done) | (simp only [go_sem]; omega) | fail) only [↓reduceIte, ↓jn_eq, go_sem, List.map_nil, refOf_am]
  | succ f ih =>
    intro l g hl hf hs
    rw [f75_eq, topF]
    by_cases h0 : l.length = 0
    · simp (disch := first | assumption | omega | (with_reducible rfl) | (simp only [go_sem]; done) | (simp only [go_sem]; omega) | fail) only [↓reduceIte, ↓jn_eq, go_sem, h0, refOf_am]
    by_cases h1 : l.length = 1
    · have hg : l[0]? = some (l.getD 0 []) := by rw [List.getD_eq_getElem?_getD, List.getElem?_eq_getElem (by omega)]; rfl
      have hm : (l.getD 0 []).length < 2147000000 := hs _ (List.mem_of_getElem? hg)
      simp (disch := first | assumption | omega | (with_reducible rfl) | (simp only [go_sem]; done) | (simp only [go_sem]; omega) | fail) only [↓reduceIte, ↓jn_eq, go_sem, h0, h1, List.getElem?_map, hg, leaf_am hm]
      rfl
    have hh := halfN_lt (n := l.length) (by omega)
    have hx : ∀ g, Cl 75 [.lst 9 g ((l.take (halfN l.length)).map V.str)] [] = _ := fun g => ih _ g (by simp; omega) (by omega) (hs.take _)
    have hy : ∀ g, Cl 75 [.lst 9 g ((l.drop (halfN l.length)).map V.str)] [] = _ := fun g => ih _ g (by simp; omega) (by omega) (hs.drop _)
    simp (disch := first | assumption | omega | (with_reducible rfl) | (simp only [go_sem]; done) | (simp only [go_sem]; omega) | fail) only [↓reduceIte, ↓jn_eq, go_sem, h0, h1, refhalf_am (n := l.length) (by omega) (by omega), ← List.map_take, ← List.map_drop, hx, hy, refnode_am (topF_len _ _) (topF_len _ _)]
theorem refTRoot_am {g : Fl} {l : List (List UInt8)} (hl : l.length < 1000000000) (hs : Short l) : Cl 56 [.lst 9 g (l.map V.str)] [] = some (A32 (treeB l), []) := by
  have h := fun g => reftop_am l.length l g (Nat.le_refl _) (by omega) hs
  rw [f56_eq, zero32]
  simp (disch := first | assumption | omega | (with_reducible rfl) | (simp only [go_sem]; done) | (simp only [go_sem]; omega) | fail) only [↓reduceIte, ↓jn_eq, go_sem, h, refRoot_am (n := l.length) hl (topF_len _ _)]
  rfl

/-! ### batch.Root -/
@[go_sem] theorem pl_vMsg (m : Msg) : (vMsg m).pl = true := rfl
@[go_sem] theorem plL_msgs (l : List Msg) : plL (l.map vMsg) = true := plL_map (fun _ => rfl) l
@[go_sem] theorem tyG_vMsg (m : Msg) : tyG 37 (vMsg m) = true := tyG_g ..
@[go_sem] theorem tyA_msgs (l : List Msg) : (l.map vMsg).all (tyG 37) = true := all_map (fun _ => tyG_g ..) l
theorem rows_short (l : List Msg) : Short (rowsB l) := by
  intro s hs
  obtain ⟨m, _, rfl⟩ := List.mem_map.1 hs
  have := rowB_len m; omega
theorem rows_len (l : List Msg) : (rowsB l).length = l.length := by rw [rowsB, List.length_map, sortM_len]
def brootB (l : List Msg) : List UInt8 := treeB (rowsB l)
theorem BRoot_am {g : Fl} {l : List Msg} (hl : ∀ m ∈ l, MOk m) (hn : l.length ≤ 1000000) : Cl 19 [.lst 38 g (l.map vMsg)] [] = some (A32 (brootB l), []) := by
  have h : ∀ g, Cl 33 [.lst 38 g (l.map vMsg)] [] = some (.lst 9 .sh ((rowsB l).map V.str), []) := fun g => Rows_am hl hn
  rw [f19_eq, zero32]
  simp (disch := first | assumption | omega | (with_reducible rfl) | (simp only [go_sem]; done) | (simp only [go_sem]; omega) | fail) only [↓reduceIte, ↓jn_eq, go_sem, h, Root_am (l := rowsB l) (by rw [rows_len]; omega) (rows_short l)]
  rfl
theorem own_am {f : Fl} {l : List Msg} (hl : l.length ≤ 1000000) : Cl 18 [.lst 38 f (l.map vMsg)] [] = some (.lst 38 .own (l.map vMsg), []) := by
  rw [f18_eq]
  simp (disch := first | assumption | omega | (with_reducible rfl) | (simp only [go_sem]; done) | (simp only [go_sem]; omega) | fail) only [↓reduceIte, ↓jn_eq, go_sem]
end Go.Proofs.YtmjocdbdbofcbaaDoor
end

section
set_option linter.unusedVariables false
set_option linter.unusedSimpArgs false
set_option linter.unusedSectionVars false
set_option maxRecDepth 100000
namespace Go.Proofs.YtmjocdbdbofcbaaDoor
open Go AM

def inR (x : Int) : Bool := decide (0 ≤ x) && decide (x < 64)
def mR (m : Msg) : Bool := inR m.fr && inR m.to && decide (m.val ≤ 1125899906842624) && decide (-1125899906842624 ≤ m.val)
def dupM (a b : Msg) : Bool := decide (a.fr = b.fr) && decide (a.to = b.to)
/-- sorted messages, from the i-th on: may they be? -/
def chkFrom (l : List Msg) : Nat → Nat → Bool
  | 0, _ => true
  | n + 1, i => !(decide (0 < i) && dupM (l.getD (i - 1) default) (l.getD i default)) && mR (l.getD i default) && chkFrom l n (i + 1)
def chkM (l : List Msg) : Bool := decide (l.length ≤ 512) && chkFrom (sortM l) l.length 0

theorem in_am (x : Int) : Cl 49 [.int .i64 x] [] = some (.bool (inR x), []) := by
  rw [f49_eq, f49_r0, f49_r1]
  by_cases h : 0 ≤ x
  · refine (geqT h _).trans ?_
    rw [ite_tt]
    refine (bstep (b_lss _ _ _) _).trans ?_
    rw [inR, decide_eq_true h]; rfl
  · refine (geqF h _).trans ?_
    rw [ite_ff, inR, decide_eq_false h]; rfl
abbrev cc : V := .clo 49 []
/-- what is asked of one message -/
theorem chk_r9 {h : List V} {id : Nat} {m : Msg} (hh : h[id]? = some (vMsg m)) (dup : Bool) (K : V → List V → Option (V × List V)) :
    f20_r9 cc (.ref id [] 38) (.bool dup) h K = K (.bool (!mR m || dup)) h := by
  rw [f20_r9]
  refine (msgFr hh _).trans ?_
  refine (callV_p (f := 49) (cs := []) _ (by kernel_rfl) (by kernel_rfl)).trans ?_
  refine (bstep (in_am m.fr) _).trans ?_
  refine (if_pos rfl).trans <| (notT _ _).trans ?_
  rw [ite_lt]
  by_cases h1 : inR m.fr = true
  · rw [if_neg (by simp [h1])]
    refine (msgTo hh _).trans ?_
    refine (callV_p (f := 49) (cs := []) _ (by kernel_rfl) (by kernel_rfl)).trans ?_
    refine (bstep (in_am m.to) _).trans ?_
    refine (if_pos rfl).trans <| (notT _ _).trans ?_
    rw [ite_lt]
    by_cases h2 : inR m.to = true
    · rw [if_neg (by simp [h2])]
      refine (msgVal hh _).trans ?_
      by_cases h3 : m.val ≤ 1125899906842624
      · refine (gtrF (by omega) _).trans ?_
        rw [ite_ff]
        refine (msgVal hh _).trans ?_
        by_cases h4 : -1125899906842624 ≤ m.val
        · refine (lssF (by omega) _).trans ?_
          rw [ite_ff]; simp [mR, h1, h2, h3, h4]
        · refine (lssT (by omega) _).trans ?_
          rw [ite_tt]; simp [mR, h4]
      · refine (gtrT (by omega) _).trans ?_
        rw [ite_tt]; simp [mR, h3]
    · rw [if_pos (by simp [h2])]; simp [mR, h2]
  · rw [if_pos (by simp [h1])]; simp [mR, h1]


theorem ropF {B : Type} {h : List V} {m : Msg} {x : Int} (j : Nat) (u : TypeId) (hj : [3, 3, 2][j]? = some u) (hu : P.cellsOf u ≠ 0) (hx : [V.int .i64 m.fr, V.int .i64 m.to, V.int .i64 m.val][j]? = some (.int .i64 x)) (K : V → Option B) :
    (fieldA P 38 j (.rop 38 (vMsg m))).bind (fun t => (ldP h u t).bind K) = K (.int .i64 x) := by
  refine (bstep (show fieldA P 38 j (.rop 38 (vMsg m)) = some (.rop u (.int .i64 x)) by simp [fieldA, K_38, hj, hu, vMsg, hx]) _).trans ?_
  exact ldR K
theorem ropFr {B : Type} {h : List V} {m : Msg} (K : V → Option B) : (fieldA P 38 0 (.rop 38 (vMsg m))).bind (fun t => (ldP h 3 t).bind K) = K (.int .i64 m.fr) := ropF 0 _ rfl (by rw [cel_3]; decide) rfl K
theorem ropTo {B : Type} {h : List V} {m : Msg} (K : V → Option B) : (fieldA P 38 1 (.rop 38 (vMsg m))).bind (fun t => (ldP h 3 t).bind K) = K (.int .i64 m.to) := ropF 1 _ rfl (by rw [cel_3]; decide) rfl K

theorem Ms_getD {l : List Msg} {i : Nat} (hi : i < l.length) : (l.map vMsg)[i]? = some (vMsg (l.getD i default)) := by
  rw [Ms_get hi, List.getD_eq_getElem?_getD, List.getElem?_eq_getElem hi]; rfl

theorem chk_r8 {h : List V} {id i : Nat} {g : Fl} {l : List Msg} {m : Msg} (hh : h[id]? = some (vMsg m)) (hi : i < l.length) (hn : l.length ≤ 1000000) (K : V → Option (V × List V)) :
    f20_r8 (vMs g l) (iv i) (.ref id [] 38) h K = K (.bool (decide (0 < i) && dupM (l.getD (i - 1) default) m)) := by
  rw [f20_r8]
  by_cases h0 : 0 < i
  · refine (gtrT (by omega) _).trans ?_
    rw [ite_tt]
    refine (subT (b := 1) (by omega) (by omega) _).trans <| (idxW K_23 (Ms_getD (i := i - 1) (by omega)) _).trans <| (ropFr _).trans <| (msgFr hh _).trans ?_
    by_cases h1 : (l.getD (i - 1) default).fr = m.fr
    · refine (eqlT h1 _).trans ?_
      rw [ite_tt]
      refine (subT (b := 1) (by omega) (by omega) _).trans <| (idxW K_23 (Ms_getD (i := i - 1) (by omega)) _).trans <| (ropTo _).trans <| (msgTo hh _).trans ?_
      refine (bstep (b_eql _ _ _) _).trans ?_
      rw [dupM, decide_eq_true h0, decide_eq_true h1]; rfl
    · refine (eqlF h1 _).trans ?_
      rw [ite_ff, dupM, decide_eq_false h1]; simp
  · refine (gtrF (by omega) _).trans ?_
    rw [ite_ff, decide_eq_false h0]; rfl

theorem chk_l0 (l : List Msg) (hn : l.length ≤ 1000000) (g g' : Fl) : ∀ (n i : Nat), i + n = l.length →
    f20_l0 cc (vMs g l) (vMs g' l) (iv l.length) (iv i) [] = some (iv (if chkFrom l n i = true then 0 else 110), []) := by
  intro n
  induction n with
  | zero =>
    intro i hi
    rw [f20_l0_eq, f20_r6]
    refine (lssF (by omega) _).trans ?_
    rw [ite_ff, f20_r12, fin_int]; rfl
  | succ n ih =>
    intro i hi
    have hlt : i < l.length := by omega
    rw [f20_l0_eq, f20_r6]
    refine (lssT (by omega) _).trans ?_
    rw [ite_tt, f20_r7]
    refine (idxL K_23 (Ms_getD hlt) _).trans <| (ldR _).trans ?_
    refine (bstep (sto_nil (P := P) (h := [] ++ [zero P 38]) (id := 0) rfl (tyMsg _) rfl) _).trans ?_
    generalize hm : l.getD i default = m
    have hh : (([] ++ [zero P 38] : List V).set 0 (vMsg m))[0]? = some (vMsg m) := rfl
    refine (chk_r8 (id := 0) hh hlt hn _).trans ?_
    refine (chk_r9 (id := 0) hh _ _).trans ?_
    rw [ite_lt, chkFrom, hm]
    generalize (decide (0 < i) && dupM (l.getD (i - 1) default) m) = db at *
    by_cases hb : (!mR m || db) = true
    · rw [if_pos hb, f20_r10, fin_int]
      have e : (!db && mR m && chkFrom l n (i + 1)) = false := by
        cases h1 : mR m <;> cases h2 : db <;> simp [h1, h2] at hb ⊢
      rw [e]; rfl
    · rw [if_neg hb, f20_r11]
      refine (addT (b := 1) (by omega) _).trans ?_
      have u : underL (List.length ([] : List V)) [cc, vMs g l, vMs g' l, iv l.length, iv (i + 1)] = true := by
        simp only [underL, under_Ms]; rfl
      refine (if_pos u).trans ?_
      have e : (!db && mR m && chkFrom l n (i + 1)) = chkFrom l n (i + 1) := by
        cases h1 : mR m <;> cases h2 : db <;> simp [h1, h2] at hb ⊢
      rw [e]
      exact ih (i + 1) (by omega)

theorem Check_am {f : Fl} {l : List Msg} (hn : l.length ≤ 1000000) : Cl 20 [vMs f l] [] = some (iv (if chkM l = true then 0 else 110), []) := by
  rw [f20_eq, f20_r0, f20_r1, f20_r2]
  refine (lenW und_23 _).trans ?_
  rw [List.length_map]
  by_cases h : l.length ≤ 512
  · refine (gtrF (by omega) _).trans ?_
    rw [ite_ff, f20_r4]
    obtain ⟨g, hg⟩ := reify1_Ms [] f l
    rw [hg]
    refine (bstep (Sort_am g l hn) _).trans ?_
    rw [f20_r5]
    refine (lenW und_23 _).trans ?_
    rw [List.length_map]
    refine (chk_l0 (sortM l) (by rw [sortM_len]; exact hn) .sh .sh (sortM l).length 0 (by omega)).trans ?_
    rw [chkM, decide_eq_true h, sortM_len, Bool.true_and]
  · refine (gtrT (by omega) _).trans ?_
    rw [ite_tt, f20_r3, fin_int, chkM, decide_eq_false h]; rfl

/-! ### batch.Put -/
def txtB (s : List UInt8) : List UInt8 := numB s.length ++ s
def putB (l : List Msg) : List UInt8 := numB l.length ++ ((rowsB l).map txtB).flatten

theorem fin_si (n : Nat) (h : List V) (s : List UInt8) (x : Int) : (if (List.all [V.int .i64 x, V.str s] V.okE) = true then finT n h (V.tup [.str s, .int .i64 x]) else none) = some (.tup [.str s, .int .i64 x], h.take n) := rfl

theorem put_l0 (rs : List (List UInt8)) (hr : ∀ r ∈ rs, r.length ≤ 100) (hn : rs.length ≤ 1000000) : ∀ (n i : Nat) (done : List UInt8), i + n = rs.length → done.length ≤ 200 * i + 100 →
    f17_l0 (rOut 0) (sL .sh rs) (iv rs.length) (iv i) [vOut .own done] = some (.tup [.str (done ++ ((rs.drop i).map txtB).flatten), .int .i64 0], []) := by
  intro n
  induction n with
  | zero =>
    intro i done hi hd
    rw [f17_l0_eq, f17_r7]
    refine (lssF (by omega) _).trans ?_
    rw [ite_ff, f17_r11]
    refine (bstep (OutDone_am (id := 0) (h := [vOut .own done]) rfl) _).trans ?_
    refine (fin_si _ _ _ _).trans ?_
    rw [List.drop_eq_nil_of_le (by omega)]; simp
  | succ n ih =>
    intro i done hi hd
    have hlt : i < rs.length := by omega
    have hg : (rs.map V.str)[i]? = some (V.str rs[i]) := by simp [hlt]
    have hl := hr _ (List.getElem_mem hlt)
    have nb := numBf_len 10 rs[i].length
    rw [f17_l0_eq, f17_r7]
    refine (lssT (by omega) _).trans ?_
    rw [ite_tt, f17_r8]
    refine (idxL K_57 hg _).trans <| (ldR _).trans ?_
    rw [f17_r9]
    have e1 : normL [rOut 0, V.str rs[i]] = [rOut 0, V.str rs[i]] := rfl
    rw [e1]
    refine (bstep (OutText_am (id := 0) (h := [vOut .own done]) rfl (Or.inl rfl) (by omega)) _).trans ?_
    rw [f17_r10]
    refine (addT (b := 1) (by omega) _).trans ?_
    have := ih (i + 1) (done ++ numB rs[i].length ++ rs[i]) (by omega) (by simp only [List.length_append, numB]; omega)
    rw [List.drop_eq_getElem_cons hlt, List.map_cons, List.flatten_cons, txtB]
    simp only [List.append_assoc] at this ⊢
    exact this

theorem Put_am {f : Fl} {l : List Msg} (hl : ∀ m ∈ l, MOk m) (hn : l.length ≤ 1000000) :
    Cl 17 [vMs f l] [] = some (if chkM l = true then .tup [.str (putB l), .int .i64 0] else .tup [.str [], .int .i64 110], []) := by
  rw [f17_eq, f17_r0, f17_r1]
  obtain ⟨g0, hg0⟩ := weak_Ms f l
  obtain ⟨g, hg⟩ := reify1_Ms [] g0 l
  rw [hg0, hg]
  refine (bstep (Check_am hn) _).trans ?_
  rw [f17_r2]
  by_cases hc : chkM l = true
  · rw [if_pos hc, if_pos hc]
    refine (neqF (by simp) _).trans ?_
    rw [ite_ff, f17_r4]
    refine (bstep (NewOut_am _) _).trans ?_
    rw [f17_r5, hg0]
    refine (lenL und_23 _).trans ?_
    rw [List.length_map]
    refine (convI (by omega) (by omega) _).trans ?_
    have e1 : normL [rOut ([] : List V).length, V.int .u64 ((l.length : Int).toNat : Int)] = [rOut 0, V.int .u64 (l.length : Int)] := rfl
    rw [e1]
    have nb := numBf_len 10 l.length
    refine (bstep (OutNum_am (id := 0) (h := [] ++ [vOut .nil []]) rfl (Or.inr rfl) (by omega) (by simp)) _).trans ?_
    rw [f17_r6]
    obtain ⟨g2, hg2⟩ := reify1_Ms (([] ++ [vOut .nil []]).set 0 (vOut .own ([] ++ numB l.length))) f l
    rw [hg2]
    refine (bstep (Rows_am hl hn) _).trans ?_
    refine (lenL und_57 _).trans ?_
    have hlen : (rowsB l).length = l.length := by rw [rowsB, List.length_map, sortM_len]
    have := put_l0 (rowsB l) (by
      intro r hr
      rw [rowsB] at hr
      obtain ⟨m, _, rfl⟩ := List.mem_map.1 hr
      have := rowB_len m; omega) (by omega) (rowsB l).length 0 (numB l.length) (by omega) (by rw [numB]; omega)
    rw [List.drop_zero] at this
    rw [List.length_map]
    exact this
  · rw [if_neg hc, if_neg hc]
    refine (neqT (by simp) _).trans ?_
    rw [ite_tt, f17_r3]
    exact fin_si _ _ _ _
end Go.Proofs.YtmjocdbdbofcbaaDoor
end

section
set_option linter.unusedVariables false
set_option linter.unusedSimpArgs false
set_option linter.unusedSectionVars false
set_option maxRecDepth 100000
namespace Go.Proofs.YtmjocdbdbofcbaaDoor
open Go AM

def getL (s0 : List UInt8) : Nat → List Msg → List UInt8 → List Msg × Nat
  | 0, acc, s => if endIn s 0 ≠ 0 then ([], endIn s 0) else if chkM acc = true ∧ putB acc = s0 then (acc, 0) else ([], 110)
  | n + 1, acc, s => if (textIn 40 s 0).2.2 ≠ 0 then ([], (textIn 40 s 0).2.2) else
      if (msgIn (textIn 40 s 0).1).2 ≠ 0 then ([], (msgIn (textIn 40 s 0).1).2) else getL s0 n (acc ++ [(msgIn (textIn 40 s 0).1).1]) (textIn 40 s 0).2.1
def getM (s : List UInt8) : List Msg × Nat :=
  if (numIn s 0).2.2 ≠ 0 then ([], (numIn s 0).2.2) else if (numIn s 0).1 > 512 then ([], 110) else getL s (numIn s 0).1 [] (numIn s 0).2.1

theorem ret_Ms {n : Nat} {h : List V} {f : Fl} (hf : f ≠ .lent) {l : List Msg} {x : Int} : (if (List.all [V.int .i64 x, vMs f l] V.okE) = true then finT n h (V.tup [vMs f l, .int .i64 x]) else none) = some (.tup [vMs .sh l, .int .i64 x], h.take n) := by
  cases f <;> first | exact absurd rfl hf | rfl

theorem msgIn_ok (s : List UInt8) : MOk (msgIn s).1 := by
  have c : ∀ n : Nat, I64 (cut64 n) := fun n => by simp only [I64, cut64]; omega
  have z : ∀ n : Nat, n < 18446744073709551616 → I64 (zz n) := fun n hn => by simp only [I64, zz]; split <;> omega
  exact ⟨c _, c _, z _ (numIn_lt _ _)⟩

theorem app1M {B : Type} {f : Fl} {h : List V} {l : List Msg} (hf : OK f) (hl : l.length + 1 ≤ 2147483648) (x : Msg) (K' : V → Option B) :
    (bldS P 23 1 [(0, vMsg x)]).bind (fun y => (appd P 23 h (vMs f l) y).bind K') = K' (vMs .own (l ++ [x])) := by
  refine (bstep (bldS1 K_23 (tyMsg x) rfl hs_38 ⟨_, rfl⟩) _).trans ?_
  refine (bstep (appL K_23 hf (y := V.lst 38 .own [vMsg x]) rfl rfl (tyOkL_Ms [x]) (by simpa using hl) hs_38) _).trans ?_
  rw [vMs, List.map_append]; rfl

theorem weakOK {f : Fl} (hf : OK f) (l : List Msg) : ∃ g, g ≠ .lent ∧ (vMs f l).weak = vMs g l := by
  rcases hf with rfl | rfl
  · exact ⟨.sh, (by intro h; cases h), rfl⟩
  · exact ⟨.nil, (by intro h; cases h), rfl⟩
theorem OKne {f : Fl} (hf : OK f) : f ≠ .lent := by rcases hf with rfl | rfl <;> (intro h; cases h)

theorem sNe {B : Type} (a b : List UInt8) (K : V → Option B) : (bin .neq (.str a) (.str b)).bind K = K (.bool (decide (a ≠ b))) := by
  rw [s_neq]; rfl
theorem sEq {B : Type} (a b : List UInt8) (K : V → Option B) : (bin .eql (.str a) (.str b)).bind K = K (.bool (decide (a = b))) := by
  rw [s_eql]; rfl

theorem textIn_len (m : Nat) (s : List UInt8) : (textIn m s 0).2.1.length ≤ s.length := by
  simp only [textIn]
  split
  · simp
  · split <;> simp
theorem textIn_len1 (m : Nat) (s : List UInt8) : (textIn m s 0).1.length ≤ m := by
  simp only [textIn, textL]
  split
  · simp
  · split
    · simp
    · split
      · simp
      · split
        · simp
        · simp only [List.length_take]; omega

theorem get_l1 (s0 : List UInt8) (cnt : Nat) (hc : cnt ≤ 512) : ∀ (n i : Nat) (f : Fl) (acc : List Msg) (s : List UInt8), i + n = cnt → OK f → acc.length = i → (∀ m ∈ acc, MOk m) → s.length < 1000000000 →
    f14_l1 (.str s0) (rIn 0) (vMs f acc) (.int .u64 (cnt : Int)) (.int .u64 (i : Int)) [vIn s 0] = some (.tup [vMs .sh (getL s0 n acc s).1, iv (getL s0 n acc s).2], []) := by
  intro n
  induction n with
  | zero =>
    intro i f acc s hi hf ha hm hl
    rw [f14_l1_eq, f14_r9]
    refine (lssF (by omega) _).trans ?_
    rw [ite_ff, f14_r18]
    have e1 : normL [rIn 0] = [rIn 0] := rfl
    rw [e1]
    refine (bstep (End_am (h := [vIn s 0]) (id := 0) rfl) _).trans ?_
    rw [f14_r19, getL]
    by_cases he : endIn s 0 ≠ 0
    · refine (neqT (by omega) _).trans ?_
      rw [ite_tt, f14_r20, if_pos he]
      exact ret_Ms (f := .nil) (l := []) (by intro h; cases h)
    refine (neqF (by omega) _).trans ?_
    rw [ite_ff, f14_r21, if_neg he]
    obtain ⟨g0, hg0n, hg0⟩ := weakOK hf acc
    obtain ⟨g, hg⟩ := reify1_Ms [vIn s 0] g0 acc
    rw [hg0, hg]
    refine (bstep (Put_am hm (by omega)) _).trans ?_
    by_cases hk : chkM acc = true
    · rw [if_pos hk]
      refine (ext0 _ _ _).trans <| (ext1 _ _ _).trans ?_
      rw [f14_r22]
      refine (neqF (by simp) _).trans ?_
      rw [ite_ff]
      refine (sNe _ _ _).trans ?_
      rw [ite_lt]
      by_cases hp : putB acc = s0
      · rw [if_neg (by simp [hp]), f14_r24, show (if chkM acc = true ∧ putB acc = s0 then (acc, 0) else (([], 110) : List Msg × Nat)) = (acc, 0) from if_pos ⟨hk, hp⟩]
        exact ret_Ms (OKne hf)
      · rw [if_pos (by simp [hp]), f14_r23, show (if chkM acc = true ∧ putB acc = s0 then (acc, 0) else (([], 110) : List Msg × Nat)) = ([], 110) from if_neg (fun h => hp h.2)]
        exact ret_Ms (f := .nil) (l := []) (by intro h; cases h)
    · rw [if_neg hk]
      refine (ext0 _ _ _).trans <| (ext1 _ _ _).trans ?_
      rw [f14_r22]
      refine (neqT (by simp) _).trans ?_
      rw [ite_tt, ite_tt, f14_r23, show (if chkM acc = true ∧ putB acc = s0 then (acc, 0) else (([], 110) : List Msg × Nat)) = ([], 110) from if_neg (fun h => hk h.1)]
      exact ret_Ms (f := .nil) (l := []) (by intro h; cases h)
  | succ n ih =>
    intro i f acc s hi hf ha hm hl
    rw [f14_l1_eq, f14_r9]
    refine (lssT (by omega) _).trans ?_
    rw [ite_tt, f14_r10]
    have e1 : normL [rIn 0, V.int .i64 40] = [rIn 0, V.int .i64 40] := rfl
    have e2 : normL [rIn 0] = [rIn 0] := rfl
    rw [e1]
    refine (bstep (Text_am (h := [vIn s 0]) (id := 0) 40 (by omega) rfl (by omega)) _).trans ?_
    rw [f14_r11, e2, getL]
    have tl := textIn_len 40 s
    have tl1 := textIn_len1 40 s
    generalize textIn 40 s 0 = t at *
    refine (bstep (Err_am (h := [vIn s 0].set 0 (vIn t.2.1 t.2.2)) (id := 0) rfl) _).trans ?_
    by_cases he : t.2.2 ≠ 0
    · refine (neqT (by omega) _).trans ?_
      rw [ite_tt, f14_r12, e2, if_pos he]
      refine (bstep (Err_am (h := [vIn s 0].set 0 (vIn t.2.1 t.2.2)) (id := 0) rfl) _).trans ?_
      exact ret_Ms (f := .nil) (l := []) (by intro h; cases h)
    refine (neqF (by omega) _).trans ?_
    rw [ite_ff, f14_r13, if_neg he]
    have mo := msgIn_ok t.1
    refine (bstep (message_am t.1 (by omega)) _).trans <| (ext0 _ _ _).trans <| (ext1 _ _ _).trans ?_
    generalize msgIn t.1 = m at *
    have he0 : t.2.2 = 0 := by omega
    refine (bstep (sto_nil (P := P) (h := [vIn t.2.1 t.2.2] ++ [zero P 38]) (id := 1) rfl (tyMsg _) rfl) _).trans ?_
    rw [f14_r14]
    by_cases hm2 : m.2 ≠ 0
    · refine (neqT (by omega) _).trans ?_
      rw [ite_tt, f14_r15, if_pos hm2]
      exact ret_Ms (f := .nil) (l := []) (by intro h; cases h)
    refine (neqF (by omega) _).trans ?_
    rw [ite_ff, f14_r16, if_neg hm2]
    refine (bstep (ldP_ref (v := vMsg m.1) (rd_nil rfl)) _).trans ?_
    refine (app1M hf (by omega) _ _).trans ?_
    rw [f14_r17]
    refine (uaddT (b := 1) (by omega) _).trans ?_
    have u : underL (List.length [vIn s 0]) [V.str s0, rIn 0, vMs .own (acc ++ [m.1]), .int .u64 (cnt : Int), .int .u64 ((i + 1 : Nat) : Int)] = true := by
      simp only [underL, under_Ms]; rfl
    refine (if_pos u).trans ?_
    have := ih (i + 1) .own (acc ++ [m.1]) t.2.1 (by omega) (Or.inl rfl) (by simp [ha]) (by
      intro x hx; rcases List.mem_append.1 hx with hx | hx
      · exact hm x hx
      · rw [List.mem_singleton.1 hx]; exact mo) (by omega)
    show f14_l1 _ _ _ _ _ [vIn t.2.1 t.2.2] = _
    rw [he0]
    exact this

theorem Get_am {s : List UInt8} (hl : s.length < 1000000000) : Cl 14 [.str s] [] = some (.tup [vMs .sh (getM s).1, iv (getM s).2], []) := by
  have e0 : normL [V.str s] = [V.str s] := rfl
  have e2 : normL [rIn ([] : List V).length] = [rIn 0] := rfl
  rw [f14_eq, f14_r0, f14_r1, e0]
  refine (bstep (NewIn_am [] s) _).trans ?_
  rw [f14_r2, e2]
  refine (bstep (Num_am (h := [vIn s 0]) (id := 0) rfl (by omega)) _).trans ?_
  have nl := numIn_len s 0
  have nlt := numIn_lt s 0
  rw [f14_r3, e2, getM]
  generalize numIn s 0 = a at *
  refine (bstep (Err_am (h := [vIn s 0].set 0 (vIn a.2.1 a.2.2)) (id := 0) rfl) _).trans ?_
  by_cases he : a.2.2 ≠ 0
  · refine (neqT (by omega) _).trans ?_
    rw [ite_tt, f14_r4, e2, if_pos he]
    refine (bstep (Err_am (h := [vIn s 0].set 0 (vIn a.2.1 a.2.2)) (id := 0) rfl) _).trans ?_
    exact ret_Ms (f := .nil) (l := []) (by intro h; cases h)
  refine (neqF (by omega) _).trans ?_
  rw [ite_ff, f14_r5, if_neg he]
  by_cases h5 : a.1 > 512
  · refine (gtrT (by omega) _).trans ?_
    rw [ite_tt, f14_r6, if_pos h5]
    exact ret_Ms (f := .nil) (l := []) (by intro h; cases h)
  refine (gtrF (by omega) _).trans ?_
  rw [ite_ff, f14_r7, f14_r8, if_neg h5]
  have he0 : a.2.2 = 0 := by omega
  show f14_l1 _ _ _ _ _ [vIn a.2.1 a.2.2] = _
  rw [he0]
  exact get_l1 s a.1 (by omega) a.1 0 .nil [] a.2.1 (by omega) (Or.inr rfl) rfl (by intro m hm; cases hm) (by omega)

end Go.Proofs.YtmjocdbdbofcbaaDoor
end

section
set_option linter.unusedVariables false
set_option linter.unusedSimpArgs false
set_option linter.unusedSectionVars false
set_option maxRecDepth 100000
namespace Go.Proofs.YtmjocdbdbofcbaaDoor
open Go AM

end Go.Proofs.YtmjocdbdbofcbaaDoor
end

section
set_option linter.unusedVariables false
set_option linter.unusedSimpArgs false
set_option linter.unusedSectionVars false
set_option maxRecDepth 100000
namespace Go.Proofs.YtmjocdbdbofcbaaDoor
open Go AM

def m1 : Msg := ⟨0, 1, 5⟩
theorem mok1 : ∀ m ∈ [m1], MOk m := by
  intro m hm; rw [List.mem_singleton.1 hm]; refine ⟨?_, ?_, ?_⟩ <;> simp [I64, m1]
theorem chk1 : chkM [m1] = true := by decide +kernel
theorem put1 : putB [m1] = [1, 3, 0, 1, 10] := by decide +kernel
theorem get1 : getM [1, 3, 0, 1, 10] = ([m1], 0) := by decide +kernel
theorem rows1 : rowsB [m1] = [[0, 1, 10]] := by decide +kernel

theorem rows57 : Cl 57 [vMs .sh [m1]] [] = some (sL .sh [[0, 1, 10]], []) := callW_run.2 ⟨60, by kernel_rfl⟩
theorem same16 : Cl 16 [vMs .sh [m1], vMs .sh [m1]] [] = some (.bool true, []) := callW_run.2 ⟨60, by kernel_rfl⟩

theorem m1_treeB : brootB [m1] = treeB [[0, 1, 10]] := by rw [brootB, rows1]
theorem root19 : Cl 19 [vMs .sh [m1]] [] = some (A32 (treeB [[0, 1, 10]]), []) := by
  rw [← m1_treeB]; exact BRoot_am mok1 (by simp)
theorem root32 : Cl 32 [vMs .sh [m1]] [] = some (A32 (treeB [[0, 1, 10]]), []) := by
  rw [f32_eq, zero32]
  have h := rows57
  have hr : ∀ g, Cl 56 [sL g [[0, 1, 10]]] [] = _ := fun g => refTRoot_am (l := [[0, 1, 10]]) (g := g) (by simp) (by intro s hs; rw [List.mem_singleton.1 hs]; simp)
  have e : V.reify [A32 (List.replicate 32 0)] (vMs .sh [m1]) = vMs .sh [m1] := rfl
  have e2 : V.reify [A32 (List.replicate 32 0)] (sL .sh [[0, 1, 10]]) = sL .sh [[0, 1, 10]] := rfl
  simp (disch := first | assumption | omega | (with_reducible rfl) | (simp only [go_sem]; done) | (simp only [go_sem]; omega) | fail) only [↓reduceIte, ↓jn_eq, go_sem, e, e2, h, hr]
theorem eqvL_bytes : ∀ l : List UInt8, eqvL (bytesOf l) (bytesOf l) = some true
  | [] => rfl
  | x :: l => by
    have : bytesOf (x :: l) = .int .u8 (x.toNat : Int) :: bytesOf l := rfl
    rw [this]
    simp [eqvL, eqv, eqvL_bytes l]
theorem eqOk_h : (eqOk P 12 33 && !P.eqGuardType P.depth 33) = true := by kernel_rfl
theorem binT_A32 (l : List UInt8) : binT P 33 .eql (A32 l) (A32 l) = some (.bool true) := by
  have : eqv (A32 l) (A32 l) = some true := by simp [A32, eqv, eqvL_bytes]
  rw [binT, eqOk_h, tyA32, this]; rfl

theorem awake11 : Cl 13 [] [] = some (.bool true, []) := by
  rw [f13_eq, f13_r0, f13_r1]
  have b : bld P 38 [(1, .int .i64 1), (2, .int .i64 5)] = some (vMsg m1) := by
    simp [bld, K_38, zr_38, setParts, tyOk, K_3, K_2, scalOk, und_3, und_2, cp, hs_3, hs_2, vMsg, m1]
  refine (bstep b _).trans ?_
  refine (bstep (show bldS P 23 1 [(0, vMsg m1)] = some (vMs .own [m1]) from bldS1 K_23 (tyMsg m1) rfl hs_38 ⟨_, rfl⟩) _).trans ?_
  rw [f13_r2]
  have e1 : reifyL [] [(vMs .own [m1]).weak] = [vMs .sh [m1]] := rfl
  rw [e1]
  refine (bstep (Put_am mok1 (by simp)) _).trans ?_
  rw [if_pos chk1, put1]
  refine (ext0 _ _ _).trans <| (ext1 _ _ _).trans ?_
  rw [f13_r3]
  refine (bstep (Get_am (s := [1, 3, 0, 1, 10]) (by simp)) _).trans ?_
  rw [get1]
  refine (bstep (show extS (.tup [vMs .sh [m1], iv 0]) 0 = some (vMs .sh [m1]) from rfl) _).trans <| (ext1 _ _ _).trans ?_
  rw [f13_r4]
  refine (sEq _ _ _).trans ?_
  rw [decide_eq_true rfl, ite_tt]
  refine (eqlT rfl _).trans ?_
  rw [ite_tt]
  refine (bstep same16 _).trans ?_
  rw [ite_tt]
  refine (eqlT rfl _).trans ?_
  rw [ite_tt]
  refine (bstep (Check_am (f := .sh) (l := [m1]) (by simp)) _).trans ?_
  rw [if_pos chk1]
  refine (eqlT rfl _).trans ?_
  rw [ite_tt]
  refine (bstep root19 _).trans <| (bstep root32 _).trans <| (bstep (binT_A32 _) _).trans ?_
  rw [ite_tt]
  have e3 : reifyL [] [vMs .own [m1]] = [vMs .sh [m1]] := rfl
  rw [e3]
  refine (bstep (Rows_am mok1 (by simp)) _).trans ?_
  rw [rows1]
  refine (lenL und_57 _).trans <| (eqlT (by simp) _).trans ?_
  rfl

#print axioms awake11
end Go.Proofs.YtmjocdbdbofcbaaDoor
end

section
set_option linter.unusedVariables false
set_option linter.unusedSimpArgs false
set_option linter.unusedSectionVars false
set_option maxRecDepth 100000
namespace Go.Proofs.YtmjocdbdbofcbaaDoor
open Go AM

theorem sortM_sorted (l : List Msg) : (sortM l).Pairwise fun x y => (!ltM y x) = true := by
  refine List.pairwise_mergeSort ?_ ?_ l
  · intro a b c h1 h2
    simp only [Bool.not_eq_true'] at h1 h2 ⊢
    exact ltM_swo.ntrans c b a h2 h1
  · intro a b
    simp only [Bool.or_eq_true, Bool.not_eq_true']
    cases h : ltM b a with
    | false => exact Or.inl rfl
    | true =>
      right
      cases h2 : ltM a b with
      | false => rfl
      | true => have := ltM_swo.trans _ _ _ h h2; rw [ltM_swo.irrefl] at this; cases this
def chkE (l : List Msg) : Nat := if chkM l = true then 0 else 110
theorem Check_am' {f : Fl} {l : List Msg} (hn : l.length ≤ 1000000) : Cl 20 [.lst 38 f (l.map vMsg)] [] = some (.int .i64 (chkE l : Int), []) := Check_am (f := f) hn
/-! ### hashes compared -/
theorem eqvL_ne : ∀ a b : List UInt8, a.length = b.length → eqvL (bytesOf a) (bytesOf b) = some (decide (a = b))
  | [], [], _ => rfl
  | x :: a, y :: b, h => by
    have e : ∀ (z : UInt8) (l : List UInt8), bytesOf (z :: l) = .int .u8 (z.toNat : Int) :: bytesOf l := fun _ _ => rfl
    rw [e, e]
    simp only [eqvL, eqv, if_true, Option.bind_some]
    by_cases hxy : x = y
    · subst hxy
      simp [eqvL_ne a b (by simpa using h)]
    · have : ¬ (x.toNat : Int) = (y.toNat : Int) := fun h => hxy (UInt8.toNat_inj.1 (by omega))
      simp [this, hxy]
  | [], _ :: _, h => by simp at h
  | _ :: _, [], h => by simp at h
@[go_sem] theorem eqA {a b : List UInt8} (ha : a.length = 32) (hb : b.length = 32) : eqT (tyG 32) .eql (A32 a) (A32 b) = some (.bool (decide (a = b))) := by
  have h : eqv (A32 a) (A32 b) = some (decide (a = b)) := by simp only [A32, eqv, if_true, eqvL_ne a b (by omega)]
  simp only [eqT, tyG_A32, Bool.and_self, if_true, h, Option.map_some]
@[go_sem] theorem neA {a b : List UInt8} (ha : a.length = 32) (hb : b.length = 32) : eqT (tyG 32) .neq (A32 a) (A32 b) = some (.bool (!decide (a = b))) := by
  have h : eqv (A32 a) (A32 b) = some (decide (a = b)) := by simp only [A32, eqv, if_true, eqvL_ne a b (by omega)]
  simp only [eqT, tyG_A32, Bool.and_self, if_true, h, Option.map_some]
@[go_sem] theorem brootB_len (l : List Msg) : (brootB l).length = 32 := rootB_len _ _

/-! ### the law -/
end Go.Proofs.YtmjocdbdbofcbaaDoor
end

section
set_option linter.unusedVariables false
set_option linter.unusedSimpArgs false
set_option linter.unusedSectionVars false
set_option maxRecDepth 100000
namespace Go.Proofs.YtmjocdbdbofcbaaDoor
open Go AM

theorem eqv_msg (a b : Msg) : eqv (vMsg a) (vMsg b) = some (decide (a = b)) := by
  simp only [vMsg, eqv, eqvL, if_true, Option.bind_some]
  by_cases h1 : a.fr = b.fr <;> by_cases h2 : a.to = b.to <;> by_cases h3 : a.val = b.val <;> cases a <;> cases b <;> simp_all
@[go_sem] theorem eqM (a b : Msg) : eqT (tyG 37) .eql (vMsg a) (vMsg b) = some (.bool (decide (a = b))) := by
  simp only [eqT, tyG_vMsg, Bool.and_self, if_true, eqv_msg, Option.map_some]
@[go_sem] theorem neM (a b : Msg) : eqT (tyG 37) .neq (vMsg a) (vMsg b) = some (.bool (!decide (a = b))) := by
  simp only [eqT, tyG_vMsg, Bool.and_self, if_true, eqv_msg, Option.map_some]
theorem msg_at {l : List Msg} {i : Nat} (h : i < l.length) : (l.map vMsg)[i]? = some (vMsg (l.getD i default)) := Ms_getD h

/-! ### sorted by putting in -/
theorem getD_lt {l : List Msg} {i : Nat} (h : i < l.length) : l.getD i default = l[i] := by
  rw [List.getD_eq_getElem?_getD, List.getElem?_eq_getElem h]; rfl
end Go.Proofs.YtmjocdbdbofcbaaDoor
end

section
set_option linter.unusedVariables false
set_option linter.unusedSimpArgs false
set_option linter.unusedSectionVars false
set_option maxRecDepth 100000
namespace Go.Proofs.YtmjocdbdbofcbaaDoor
open Go AM

/-! ### which batches may be -/
theorem chkFrom_iff (l : List Msg) : ∀ n i, chkFrom l n i = true ↔ ∀ j, i ≤ j → j < i + n → mR (l.getD j default) = true ∧ (0 < j → dupM (l.getD (j - 1) default) (l.getD j default) = false)
  | 0, i => by simp only [chkFrom, true_iff]; intro j h1 h2; omega
  | n + 1, i => by
    simp only [chkFrom, Bool.and_eq_true, Bool.not_eq_true', Bool.and_eq_false_iff, decide_eq_false_iff_not, chkFrom_iff l n (i + 1)]
    constructor
    · rintro ⟨⟨h1, h2⟩, h3⟩ j hj hj2
      by_cases e : j = i
      · subst e
        exact ⟨h2, fun h0 => h1.resolve_left (by omega)⟩
      · exact h3 j (by omega) (by omega)
    · intro h
      refine ⟨⟨?_, (h i (by omega) (by omega)).1⟩, fun j h1 h2 => h j (by omega) (by omega)⟩
      by_cases h0 : 0 < i
      · exact Or.inr ((h i (by omega) (by omega)).2 h0)
      · exact Or.inl h0
def keyLt (a b : Msg) : Prop := a.to < b.to ∨ (a.to = b.to ∧ a.fr < b.fr)
theorem key_of {a b : Msg} (h : ltM b a = false) (hd : dupM a b = false) : keyLt a b := by
  rw [cmp_neg'] at h
  simp only [dupM, Bool.and_eq_false_iff, decide_eq_false_iff_not] at hd
  simp only [keyLt]; omega
def noDup (l : List Msg) : Prop := l.Pairwise fun a b => dupM a b = false
theorem noDup_perm {l m : List Msg} (h : l.Perm m) : noDup l ↔ noDup m := by
  refine h.pairwise_iff ?_
  intro a b hab
  simp only [dupM, Bool.and_eq_false_iff, decide_eq_false_iff_not] at hab ⊢
  omega
theorem noDup_adj {l : List Msg} (hs : l.Pairwise fun x y => (!ltM y x) = true) : noDup l ↔ ∀ j, 0 < j → j < l.length → dupM (l.getD (j - 1) default) (l.getD j default) = false := by
  constructor
  · intro h j h0 hj
    have := List.pairwise_iff_getElem.1 h (j - 1) j (by omega) hj (by omega)
    rw [getD_lt hj, getD_lt (by omega)]; exact this
  · intro h
    have step : ∀ i (hi : i + 1 < l.length), keyLt l[i] l[i + 1] := by
      intro i hi
      have d := h (i + 1) (by omega) hi
      rw [getD_lt hi, getD_lt (by omega)] at d
      have s := List.pairwise_iff_getElem.1 hs i (i + 1) (by omega) hi (by omega)
      simp only [Bool.not_eq_true'] at s
      exact key_of s d
    have far : ∀ n i (hi : i + 1 + n < l.length), keyLt l[i] l[i + 1 + n] := by
      intro n
      induction n with
      | zero => intro i hi; exact step i hi
      | succ n ih =>
        intro i hi
        have a := ih i (by omega)
        have b := step (i + 1 + n) (by omega)
        simp only [keyLt] at a b ⊢
        have e : i + 1 + (n + 1) = i + 1 + n + 1 := by omega
        simp only [e]
        omega
    refine List.pairwise_iff_getElem.2 fun i j hi hj hij => ?_
    have := far (j - i - 1) i (by omega)
    have e : i + 1 + (j - i - 1) = j := by omega
    simp only [e, keyLt] at this
    simp only [dupM, Bool.and_eq_false_iff, decide_eq_false_iff_not]; omega
theorem chkM_iff (l : List Msg) : chkM l = true ↔ l.length ≤ 512 ∧ (∀ m ∈ l, mR m = true) ∧ noDup l := by
  have hp : (sortM l).Perm l := List.mergeSort_perm l _
  simp only [chkM, Bool.and_eq_true, decide_eq_true_eq, chkFrom_iff, ← noDup_perm hp, noDup_adj (sortM_sorted l), sortM_len]
  refine and_congr_right fun h5 => ?_
  constructor
  · intro h
    refine ⟨fun m hm => ?_, fun j h0 hj => (h j (by omega) (by omega)).2 h0⟩
    obtain ⟨j, hj, rfl⟩ := List.mem_iff_getElem.1 (hp.mem_iff.2 hm)
    rw [sortM_len] at hj
    have := (h j (by omega) (by omega)).1
    rwa [getD_lt (by rw [sortM_len]; exact hj)] at this
  · rintro ⟨h1, h2⟩ j _ hj
    refine ⟨?_, fun h0 => h2 j h0 (by omega)⟩
    rw [getD_lt (by rw [sortM_len]; omega)]
    exact h1 _ (hp.mem_iff.1 (List.getElem_mem _))
/-! ### a batch is read again -/
end Go.Proofs.YtmjocdbdbofcbaaDoor
end

section
set_option linter.unusedVariables false
set_option linter.unusedSimpArgs false
set_option linter.unusedSectionVars false
set_option maxRecDepth 100000
namespace Go.Proofs.YtmjocdbdbofcbaaDoor
open Go AM

theorem less_law {l : List Msg} {k : Nat} (hk : k < l.length) (h60 : l.length ≤ 60) (h : chkM l = true) : chkE (l.take k ++ l.drop (k + 1)) = 0 ∧ chkE (l ++ [l[k]]) = 110 := by
  obtain ⟨c1, c2, c3⟩ := (chkM_iff l).1 h
  constructor
  · rw [chkE, if_pos]
    have hs : (l.take k ++ l.drop (k + 1)).Sublist l := by
      have := List.eraseIdx_sublist l k
      rwa [List.eraseIdx_eq_take_drop_succ] at this
    exact (chkM_iff _).2 ⟨by have := hs.length_le; omega, fun m hm => c2 m (hs.subset hm), c3.sublist hs⟩
  · rw [chkE, if_neg]
    intro hc
    have := ((chkM_iff _).1 hc).2.2
    have := (List.pairwise_append.1 this).2.2 l[k] (List.getElem_mem _) l[k] (by simp)
    simp [dupM] at this
theorem less_am {f : Fl} {l : List Msg} (hl : ∀ m ∈ l, MOk m) {a : Nat} (ha : a < 256) : Cl 7 [.lst 38 f (l.map vMsg), .int .u8 (a : Int)] [] = some (.bool true, []) := by
  rw [f7_eq]
  by_cases h60 : l.length > 60
  · simp (disch := first | assumption | omega | (with_reducible rfl) | (simp only [go_sem]; done) | (simp only [go_sem]; omega) | fail) only [↓reduceIte, ↓jn_eq, go_sem, awake11]
  by_cases h0 : l.length = 0
  · simp (disch := first | assumption | omega | (with_reducible rfl) | (simp only [go_sem]; done) | (simp only [go_sem]; omega) | fail) only [↓reduceIte, ↓jn_eq, go_sem, awake11, h0]
  by_cases hc : chkM l = true
  · obtain ⟨k, hk, hkl⟩ : ∃ k, a % l.length = k ∧ k < l.length := ⟨_, rfl, Nat.mod_lt _ (by omega)⟩
    have e0 : chkE l = 0 := by rw [chkE, if_pos hc]
    obtain ⟨e1, e2⟩ := less_law hkl (by omega) hc
    have ex : [vMsg l[k]] = [l[k]].map vMsg := rfl
    simp (disch := first | assumption | omega | (with_reducible rfl) | (simp only [go_sem]; done) | (simp only [go_sem]; omega) | fail) only [↓reduceIte, ↓jn_eq, go_sem, awake11, own_am, Check_am', e0, hk, msg_at hkl, getD_lt hkl, ← List.map_drop, ← List.map_take, ← List.map_append, ex, e1, e2]
    rfl
  · have e0 : chkE l = 110 := by rw [chkE, if_neg hc]
    simp (disch := first | assumption | omega | (with_reducible rfl) | (simp only [go_sem]; done) | (simp only [go_sem]; omega) | fail) only [↓reduceIte, ↓jn_eq, go_sem, awake11, own_am, Check_am', e0]
end Go.Proofs.YtmjocdbdbofcbaaDoor
end
