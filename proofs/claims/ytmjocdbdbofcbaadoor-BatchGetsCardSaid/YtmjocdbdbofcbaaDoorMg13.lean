/-
  Part of the proof of a statement about the given program: an abstract machine over its code, the simulation, its functions' equations, what they compute.
-/
import Derived.Test.YtmjocdbdbofcbaaDoorMg11
import Derived.Test.YtmjocdbdbofcbaaDoorMg12
import Derived.Test.YtmjocdbdbofcbaaDoorMg4
section
set_option linter.unusedVariables false
set_option linter.unusedSimpArgs false
set_option linter.unusedSectionVars false
set_option maxRecDepth 100000
namespace Go.Proofs.YtmjocdbdbofcbaaDoor
open Go AM

@[go_sem] theorem pl_A32 (l : List UInt8) : (A32 l).pl = true := plL_bytes l
@[go_sem] theorem tyG_A32 (l : List UInt8) : tyG 32 (A32 l) = true := tyG_g ..
theorem zero32 : V.agg 32 (List.replicate 32 (V.int .u8 0)) = A32 (List.replicate 32 0) := rfl
@[go_sem] theorem plL_strs (l : List (List UInt8)) : plL (l.map V.str) = true := plL_map (fun _ => rfl) l
@[go_sem] theorem tyS_strs (l : List (List UInt8)) : (l.map V.str).all tyS = true := all_map (fun _ => rfl) l
@[go_sem] theorem plL_bs (l : List UInt8) : plL (bytesOf l) = true := plL_bytes l

def halfG (n : Nat) : Nat → Nat → Nat
  | 0, k => k
  | f + 1, k => if 2 * k < n then halfG n f (2 * k) else k
def halfN (n : Nat) : Nat := halfG n 62 1
theorem halfG_lt (n : Nat) : ∀ (f k : Nat), 0 < k → k < n → 0 < halfG n f k ∧ halfG n f k < n
  | 0, k, h, h2 => ⟨h, h2⟩
  | f + 1, k, h, h2 => by
    rw [halfG]; split
    · exact halfG_lt n f (2 * k) (by omega) (by omega)
    · exact ⟨h, h2⟩
theorem pow2 {n k f : Nat} (h : n < k * 2 ^ (f + 1)) : n < 2 * k * 2 ^ f := by
  rw [Nat.pow_succ] at h
  have e : k * (2 ^ f * 2) = 2 * k * 2 ^ f := by rw [Nat.mul_comm 2 k, Nat.mul_assoc, Nat.mul_comm (2 ^ f)]
  omega
theorem half_l0 (n : Nat) (hn : n < 2 ^ 61) : ∀ (f k : Nat), 0 < k → k ≤ n → n < k * 2 ^ f → f80_l0 (iv n) (iv k) = some (iv (halfG n f k), []) := by
  intro f
  induction f with
  | zero => intro k h h2 h3; omega
  | succ f ih =>
    intro k h h2 h3
    rw [f80_l0_eq, halfG]
    have h2' : (2 : Int) * (k : Int) = ((2 * k : Nat) : Int) := by omega
    by_cases hk : 2 * k < n
    · rw [if_pos hk]
      refine (bstep (subN (by omega) (by omega)) _).trans <| (lssT (by omega) _).trans ?_
      rw [ite_tt]
      refine (bstep (mul_i (by omega) (by omega)) _).trans ?_
      rw [show (k : Int) * 2 = ((2 * k : Nat) : Int) by omega]
      exact ih (2 * k) (by omega) (by omega) (pow2 h3)
    · rw [if_neg hk]
      refine (bstep (subN (by omega) (by omega)) _).trans <| (lssF (by omega) _).trans ?_
      rfl
theorem Half_am {n : Nat} (h2 : 2 ≤ n) (hn : n < 2 ^ 61) : Cl 80 [iv n] [] = some (iv (halfN n), []) := by
  rw [f80_eq]
  refine (lssF (by omega) _).trans ?_
  rw [ite_ff]
  exact half_l0 n hn 62 1 (by omega) (by omega) (by omega)
theorem refhalf_l0 (n : Nat) (hn : n < 2 ^ 61) : ∀ (f k : Nat), 0 < k → k ≤ n → n < k * 2 ^ f → f91_l0 (iv n) (iv k) = some (iv (halfG n f k), []) := by
  intro f
  induction f with
  | zero => intro k h h2 h3; omega
  | succ f ih =>
    intro k h h2 h3
    rw [f91_l0_eq, halfG]
    have e : (2 : Int) * (k : Int) = ((2 * k : Nat) : Int) := by omega
    refine (bstep (mul_i (by omega) (by omega)) _).trans ?_
    rw [e]
    by_cases hk : 2 * k < n
    · rw [if_pos hk]
      refine (lssT (by omega) _).trans ?_
      rw [ite_tt]
      refine (bstep (mul_i (by omega) (by omega)) _).trans ?_
      rw [e]
      exact ih (2 * k) (by omega) (by omega) (pow2 h3)
    · rw [if_neg hk]
      refine (lssF (by omega) _).trans ?_
      rfl
theorem refhalf_am {n : Nat} (h2 : 1 ≤ n) (hn : n < 2 ^ 61) : Cl 91 [iv n] [] = some (iv (halfN n), []) := by
  rw [f91_eq]
  exact refhalf_l0 n hn 62 1 (by omega) (by omega) (by omega)

/-! ### nodes -/
def nodeB (a b : List UInt8) : List UInt8 := sha ([1] ++ a ++ b)
theorem Node_am {a b : List UInt8} (ha : a.length = 32) (hb : b.length = 32) : Cl 81 [A32 a, A32 b] [] = some (A32 (nodeB a b), []) := by
  have er : V.reify [A32 a, A32 b, A32 (List.replicate 32 0)] (.lst 55 .lent [bL .sh [1], .win 0 [] 0 32 5, .win 1 [] 0 32 5]) = .lst 55 .lent (parts [(.sh, [1]), (.lent, a), (.lent, b)]) := by
    have w := reify_w (h := [A32 a, A32 b, A32 (List.replicate 32 0)]) (id := 0) (c := a) rfl ha
    have w' := reify_w (h := [A32 a, A32 b, A32 (List.replicate 32 0)]) (id := 1) (c := b) rfl hb
    show V.lst 55 .lent [V.reify _ (bL .sh [1]), V.reify [A32 a, A32 b, A32 (List.replicate 32 0)] (.win 0 [] 0 32 5), V.reify [A32 a, A32 b, A32 (List.replicate 32 0)] (.win 1 [] 0 32 5)] = _
    rw [w, w']; rfl
  have ef : flat [(.sh, [1]), (.lent, a), (.lent, b)] = [1] ++ a ++ b := by simp [flat]
  rw [f81_eq, zero32]
  simp (disch := first | assumption | omega | (with_reducible rfl) | (simp only [go_sem]; done) | (simp only [go_sem]; omega) | fail) only [↓reduceIte, ↓jn_eq, Nat.reduceAdd, go_sem]
  refine (bstep (show bsL 55 true (some [.lst 5 .sh [.int .u8 1], (V.win 0 [] 0 32 5).weak, (V.win 1 [] 0 32 5).weak]) = some (.lst 55 .lent [bL .sh [1], .win 0 [] 0 32 5, .win 1 [] 0 32 5]) from rfl) _).trans ?_
  rw [er]
  refine (bstep (of_am _ (by simp) .lent (by rw [ef]; simp; omega) (by rw [ef]; simp)) _).trans ?_
  rw [ef]
  simp (disch := first | assumption | omega | (with_reducible rfl) | (simp only [go_sem]; done) | (simp only [go_sem]; omega) | fail) only [↓reduceIte, ↓jn_eq, Nat.reduceAdd, go_sem]
  rfl
theorem refnode_am {a b : List UInt8} (ha : a.length = 32) (hb : b.length = 32) : Cl 92 [.str a, .str b] [] = some (.str (nodeB a b), []) := by
  rw [f92_eq]
  simp (disch := first | assumption | omega | (with_reducible rfl) | (simp only [go_sem]; done) | (simp only [go_sem]; omega) | fail) only [↓reduceIte, ↓jn_eq, Nat.reduceAdd, go_sem, refOf_am]
  rfl

/-! ### tops -/
def topF : Nat → List (List UInt8) → List UInt8
  | 0, _ => sha [2]
  | f + 1, l => if l.length = 0 then sha [2] else if l.length = 1 then sha (0 :: l.getD 0 []) else nodeB (topF f (l.take (halfN l.length))) (topF f (l.drop (halfN l.length)))
theorem topF_len : ∀ (f : Nat) (l : List (List UInt8)), (topF f l).length = 32
  | 0, _ => sha_len _
  | f + 1, l => by rw [topF]; split; · exact sha_len _
                   split <;> exact sha_len _
def Short (l : List (List UInt8)) : Prop := ∀ s ∈ l, s.length < 2147000000
theorem Short.take {l : List (List UInt8)} (h : Short l) (n : Nat) : Short (l.take n) := fun s hs => h s (List.mem_of_mem_take hs)
theorem Short.drop {l : List (List UInt8)} (h : Short l) (n : Nat) : Short (l.drop n) := fun s hs => h s (List.mem_of_mem_drop hs)

theorem of0 {x : Nat} (hx : x < 256) {g : Fl} : Cl 78 [.lst 55 g [.lst 5 .sh [.int .u8 (x : Int)]]] [] = some (A32 (sha [UInt8.ofNat x]), []) := by
  have e : [V.lst 5 .sh [.int .u8 (x : Int)]] = parts [(.sh, [UInt8.ofNat x])] := by
    simp only [parts, part, List.map_cons, List.map_nil, bL, bytesOf]
    rw [UInt8.toNat_ofNat', Nat.mod_eq_of_lt (by omega)]
  rw [e, of_am _ (by simp) g (by simp [flat]) (by simp [flat])]
  simp [flat]

theorem halfN_lt {n : Nat} (h : 2 ≤ n) : 0 < halfN n ∧ halfN n < n := halfG_lt n 62 1 (by omega) (by omega)
theorem Top_am : ∀ (f : Nat) (l : List (List UInt8)) (g : Fl), l.length ≤ f → f < 2000000000 → Short l → Cl 68 [.lst 9 g (l.map V.str)] [] = some (A32 (topF f l), []) := by
  intro f
  induction f with
  | zero =>
    intro l g hl _ _
    have : l = [] := List.eq_nil_of_length_eq_zero (by omega)
    subst this
    rw [f68_eq, zero32, topF]
    simp (disch := first | assumption | omega | (with_reducible rfl) | (simp only [go_sem]; done) | (simp only [go_sem]; omega) | fail) only [↓reduceIte, ↓jn_eq, Nat.reduceAdd, go_sem, List.map_nil]
    refine (bstep (of0 (x := 2) (by omega)) _).trans ?_
    simp (disch := first | assumption | omega | (with_reducible rfl) | (simp only [go_sem]; done) | (simp only [go_sem]; omega) | fail) only [↓reduceIte, ↓jn_eq, Nat.reduceAdd, go_sem]
    rfl
  | succ f ih =>
    intro l g hl hf hs
    rw [f68_eq, zero32, topF]
    by_cases h0 : l.length = 0
    · simp (disch := first | assumption | omega | (with_reducible rfl) | (simp only [go_sem]; done) | (simp only [go_sem]; omega) | fail) only [↓reduceIte, ↓jn_eq, Nat.reduceAdd, go_sem, h0]
      refine (bstep (of0 (x := 2) (by omega)) _).trans ?_
      simp (disch := first | assumption | omega | (with_reducible rfl) | (simp only [go_sem]; done) | (simp only [go_sem]; omega) | fail) only [↓reduceIte, ↓jn_eq, Nat.reduceAdd, go_sem]
      rfl
    by_cases h1 : l.length = 1
    · have hg : l[0]? = some (l.getD 0 []) := by rw [List.getD_eq_getElem?_getD, List.getElem?_eq_getElem (by omega)]; rfl
      have hm : (l.getD 0 []).length < 2147000000 := hs _ (List.mem_of_getElem? hg)
      simp (disch := first | assumption | omega | (with_reducible rfl) | (simp only [go_sem]; done) | (simp only [go_sem]; omega) | fail) only [↓reduceIte, ↓jn_eq, Nat.reduceAdd, go_sem, h0, h1, List.getElem?_map, hg, Leaf_am hm]
      rfl
    have hh := halfN_lt (n := l.length) (by omega)
    have hx : ∀ g, Cl 68 [.lst 9 g ((l.take (halfN l.length)).map V.str)] [] = _ := fun g => ih _ g (by simp; omega) (by omega) (hs.take _)
    have hy : ∀ g, Cl 68 [.lst 9 g ((l.drop (halfN l.length)).map V.str)] [] = _ := fun g => ih _ g (by simp; omega) (by omega) (hs.drop _)
    simp (disch := first | assumption | omega | (with_reducible rfl) | (simp only [go_sem]; done) | (simp only [go_sem]; omega) | fail) only [↓reduceIte, ↓jn_eq, Nat.reduceAdd, go_sem, h0, h1, Half_am (n := l.length) (by omega) (by omega), ← List.map_take, ← List.map_drop, hx, hy, Node_am (topF_len _ _) (topF_len _ _)]
def treeB (l : List (List UInt8)) : List UInt8 := rootB l.length (topF l.length l)
theorem rootB_len (n : Nat) (t : List UInt8) : (rootB n t).length = 32 := sha_len _
theorem Root_am {g : Fl} {l : List (List UInt8)} (hl : l.length < 1000000000) (hs : Short l) : Cl 48 [.lst 9 g (l.map V.str)] [] = some (A32 (treeB l), []) := by
  have h := fun g => Top_am l.length l g (Nat.le_refl _) (by omega) hs
  rw [f48_eq, zero32]
  simp (disch := first | assumption | omega | (with_reducible rfl) | (simp only [go_sem]; done) | (simp only [go_sem]; omega) | fail) only [↓reduceIte, ↓jn_eq, Nat.reduceAdd, go_sem, h, root_am (n := l.length) hl (topF_len _ _)]
  rfl

theorem reftop_am : ∀ (f : Nat) (l : List (List UInt8)) (g : Fl), l.length ≤ f → f < 2000000000 → Short l → Cl 75 [.lst 9 g (l.map V.str)] [] = some (.str (topF f l), []) := by
  intro f
  induction f with
  | zero =>
    intro l g hl _ _
    have : l = [] := List.eq_nil_of_length_eq_zero (by omega)
    subst this
    rw [f75_eq, topF]
    simp (disch := first | assumption | omega | (with_reducible rfl) | (simp only [go_sem]; done) | (simp only [go_sem]; omega) | fail) only [↓reduceIte, ↓jn_eq, Nat.reduceAdd, go_sem, List.map_nil, refOf_am]
  | succ f ih =>
    intro l g hl hf hs
    rw [f75_eq, topF]
    by_cases h0 : l.length = 0
    · simp (disch := first | assumption | omega | (with_reducible rfl) | (simp only [go_sem]; done) | (simp only [go_sem]; omega) | fail) only [↓reduceIte, ↓jn_eq, Nat.reduceAdd, go_sem, h0, refOf_am]
    by_cases h1 : l.length = 1
    · have hg : l[0]? = some (l.getD 0 []) := by rw [List.getD_eq_getElem?_getD, List.getElem?_eq_getElem (by omega)]; rfl
      have hm : (l.getD 0 []).length < 2147000000 := hs _ (List.mem_of_getElem? hg)
      simp (disch := first | assumption | omega | (with_reducible rfl) | (simp only [go_sem]; done) | (simp only [go_sem]; omega) | fail) only [↓reduceIte, ↓jn_eq, Nat.reduceAdd, go_sem, h0, h1, List.getElem?_map, hg, leaf_am hm]
      rfl
    have hh := halfN_lt (n := l.length) (by omega)
    have hx : ∀ g, Cl 75 [.lst 9 g ((l.take (halfN l.length)).map V.str)] [] = _ := fun g => ih _ g (by simp; omega) (by omega) (hs.take _)
    have hy : ∀ g, Cl 75 [.lst 9 g ((l.drop (halfN l.length)).map V.str)] [] = _ := fun g => ih _ g (by simp; omega) (by omega) (hs.drop _)
    simp (disch := first | assumption | omega | (with_reducible rfl) | (simp only [go_sem]; done) | (simp only [go_sem]; omega) | fail) only [↓reduceIte, ↓jn_eq, Nat.reduceAdd, go_sem, h0, h1, refhalf_am (n := l.length) (by omega) (by omega), ← List.map_take, ← List.map_drop, hx, hy, refnode_am (topF_len _ _) (topF_len _ _)]
theorem refTRoot_am {g : Fl} {l : List (List UInt8)} (hl : l.length < 1000000000) (hs : Short l) : Cl 56 [.lst 9 g (l.map V.str)] [] = some (A32 (treeB l), []) := by
  have h := fun g => reftop_am l.length l g (Nat.le_refl _) (by omega) hs
  rw [f56_eq, zero32]
  simp (disch := first | assumption | omega | (with_reducible rfl) | (simp only [go_sem]; done) | (simp only [go_sem]; omega) | fail) only [↓reduceIte, ↓jn_eq, Nat.reduceAdd, go_sem, h, refRoot_am (n := l.length) hl (topF_len _ _)]
  rfl

/-! ### batch.Root -/
@[go_sem] theorem pl_vMsg (m : Msg) : (vMsg m).pl = true := (rfl)
@[go_sem] theorem plL_msgs (l : List Msg) : plL (l.map vMsg) = true := plL_map (fun _ => rfl) l
@[go_sem] theorem tyG_vMsg (m : Msg) : tyG 37 (vMsg m) = true := tyG_g ..
@[go_sem] theorem tyA_msgs (l : List Msg) : (l.map vMsg).all (tyG 37) = true := all_map (fun _ => tyG_g ..) l
theorem rows_short (l : List Msg) : Short (rowsB l) := by
  intro s hs
  obtain ⟨m, _, rfl⟩ := List.mem_map.1 hs
  have := rowB_len m; omega
theorem rows_len (l : List Msg) : (rowsB l).length = l.length := by rw [rowsB, List.length_map, sortM_len]
def brootB (l : List Msg) : List UInt8 := treeB (rowsB l)
theorem BRoot_am {g : Fl} {l : List Msg} (hl : ∀ m ∈ l, MOk m) (hn : l.length ≤ 1000000) : Cl 19 [.lst 38 g (l.map vMsg)] [] = some (A32 (brootB l), []) := by
  have h : ∀ g, Cl 33 [.lst 38 g (l.map vMsg)] [] = some (.lst 9 .sh ((rowsB l).map V.str), []) := fun g => Rows_am hl hn
  rw [f19_eq, zero32]
  simp (disch := first | assumption | omega | (with_reducible rfl) | (simp only [go_sem]; done) | (simp only [go_sem]; omega) | fail) only [↓reduceIte, ↓jn_eq, Nat.reduceAdd, go_sem, h, Root_am (l := rowsB l) (by rw [rows_len]; omega) (rows_short l)]
  rfl
end Go.Proofs.YtmjocdbdbofcbaaDoor
end

section
set_option linter.unusedVariables false
set_option linter.unusedSimpArgs false
set_option linter.unusedSectionVars false
set_option maxRecDepth 100000
namespace Go.Proofs.YtmjocdbdbofcbaaDoor
open Go AM

def inR (x : Int) : Bool := decide (0 ≤ x) && decide (x < 64)
def mR (m : Msg) : Bool := inR m.fr && inR m.to && decide (m.val ≤ 1125899906842624) && decide (-1125899906842624 ≤ m.val)
def dupM (a b : Msg) : Bool := decide (a.fr = b.fr) && decide (a.to = b.to)
/-- sorted messages, from the i-th on: may they be? -/
def chkFrom (l : List Msg) : Nat → Nat → Bool
  | 0, _ => true
  | n + 1, i => !(decide (0 < i) && dupM (l.getD (i - 1) default) (l.getD i default)) && mR (l.getD i default) && chkFrom l n (i + 1)
def chkM (l : List Msg) : Bool := decide (l.length ≤ 512) && chkFrom (sortM l) l.length 0

theorem in_am (x : Int) : Cl 49 [.int .i64 x] [] = some (.bool (inR x), []) := by
  rw [f49_eq, f49_r0, f49_r1]
  by_cases h : 0 ≤ x
  · refine (geqT h _).trans ?_
    rw [ite_tt]
    refine (bstep (b_lss _ _ _) _).trans ?_
    rw [inR, decide_eq_true h]; rfl
  · refine (geqF h _).trans ?_
    rw [ite_ff, inR, decide_eq_false h]; rfl
abbrev cc : V := .clo 49 []
/-- what is asked of one message -/
theorem chk_r9 {h : List V} {id : Nat} {m : Msg} (hh : h[id]? = some (vMsg m)) (dup : Bool) (K : V → List V → Option (V × List V)) :
    f20_r9 cc (.ref id [] 38) (.bool dup) h K = K (.bool (!mR m || dup)) h := by
  rw [f20_r9]
  refine (msgFr hh _).trans ?_
  refine (callV_p (f := 49) (cs := []) _ (by kernel_rfl) (by kernel_rfl)).trans ?_
  refine (bstep (in_am m.fr) _).trans ?_
  refine (if_pos rfl).trans <| (notT _ _).trans ?_
  rw [ite_lt]
  by_cases h1 : inR m.fr = true
  · rw [if_neg (by simp [h1])]
    refine (msgTo hh _).trans ?_
    refine (callV_p (f := 49) (cs := []) _ (by kernel_rfl) (by kernel_rfl)).trans ?_
    refine (bstep (in_am m.to) _).trans ?_
    refine (if_pos rfl).trans <| (notT _ _).trans ?_
    rw [ite_lt]
    by_cases h2 : inR m.to = true
    · rw [if_neg (by simp [h2])]
      refine (msgVal hh _).trans ?_
      by_cases h3 : m.val ≤ 1125899906842624
      · refine (gtrF (by omega) _).trans ?_
        rw [ite_ff]
        refine (msgVal hh _).trans ?_
        by_cases h4 : -1125899906842624 ≤ m.val
        · refine (lssF (by omega) _).trans ?_
          rw [ite_ff]; simp [mR, h1, h2, h3, h4]
        · refine (lssT (by omega) _).trans ?_
          rw [ite_tt]; simp [mR, h4]
      · refine (gtrT (by omega) _).trans ?_
        rw [ite_tt]; simp [mR, h3]
    · rw [if_pos (by simp [h2])]; simp [mR, h2]
  · rw [if_pos (by simp [h1])]; simp [mR, h1]


theorem ropF {B : Type} {h : List V} {m : Msg} {x : Int} (j : Nat) (u : TypeId) (hj : [3, 3, 2][j]? = some u) (hu : P.cellsOf u ≠ 0) (hx : [V.int .i64 m.fr, V.int .i64 m.to, V.int .i64 m.val][j]? = some (.int .i64 x)) (K : V → Option B) :
    (fieldA P 38 j (.rop 38 (vMsg m))).bind (fun t => (ldP h u t).bind K) = K (.int .i64 x) := by
  refine (bstep (show fieldA P 38 j (.rop 38 (vMsg m)) = some (.rop u (.int .i64 x)) by simp [fieldA, K_38, hj, hu, vMsg, hx]) _).trans ?_
  exact ldR K
theorem ropFr {B : Type} {h : List V} {m : Msg} (K : V → Option B) : (fieldA P 38 0 (.rop 38 (vMsg m))).bind (fun t => (ldP h 3 t).bind K) = K (.int .i64 m.fr) := ropF 0 _ rfl (by rw [cel_3]; decide) rfl K
theorem ropTo {B : Type} {h : List V} {m : Msg} (K : V → Option B) : (fieldA P 38 1 (.rop 38 (vMsg m))).bind (fun t => (ldP h 3 t).bind K) = K (.int .i64 m.to) := ropF 1 _ rfl (by rw [cel_3]; decide) rfl K

theorem Ms_getD {l : List Msg} {i : Nat} (hi : i < l.length) : (l.map vMsg)[i]? = some (vMsg (l.getD i default)) := by
  rw [Ms_get hi, List.getD_eq_getElem?_getD, List.getElem?_eq_getElem hi]; rfl

theorem chk_r8 {h : List V} {id i : Nat} {g : Fl} {l : List Msg} {m : Msg} (hh : h[id]? = some (vMsg m)) (hi : i < l.length) (hn : l.length ≤ 1000000) (K : V → Option (V × List V)) :
    f20_r8 (vMs g l) (iv i) (.ref id [] 38) h K = K (.bool (decide (0 < i) && dupM (l.getD (i - 1) default) m)) := by
  rw [f20_r8]
  by_cases h0 : 0 < i
  · refine (gtrT (by omega) _).trans ?_
    rw [ite_tt]
    refine (subT (b := 1) (by omega) (by omega) _).trans <| (idxW K_23 (Ms_getD (i := i - 1) (by omega)) _).trans <| (ropFr _).trans <| (msgFr hh _).trans ?_
    by_cases h1 : (l.getD (i - 1) default).fr = m.fr
    · refine (eqlT h1 _).trans ?_
      rw [ite_tt]
      refine (subT (b := 1) (by omega) (by omega) _).trans <| (idxW K_23 (Ms_getD (i := i - 1) (by omega)) _).trans <| (ropTo _).trans <| (msgTo hh _).trans ?_
      refine (bstep (b_eql _ _ _) _).trans ?_
      rw [dupM, decide_eq_true h0, decide_eq_true h1]; rfl
    · refine (eqlF h1 _).trans ?_
      rw [ite_ff, dupM, decide_eq_false h1]; simp
  · refine (gtrF (by omega) _).trans ?_
    rw [ite_ff, decide_eq_false h0]; rfl

theorem chk_l0 (l : List Msg) (hn : l.length ≤ 1000000) (g g' : Fl) : ∀ (n i : Nat), i + n = l.length →
    f20_l0 cc (vMs g l) (vMs g' l) (iv l.length) (iv i) [] = some (iv (if chkFrom l n i = true then 0 else 110), []) := by
  intro n
  induction n with
  | zero =>
    intro i hi
    rw [f20_l0_eq, f20_r6]
    refine (lssF (by omega) _).trans ?_
    rw [ite_ff, f20_r12, fin_int]; rfl
  | succ n ih =>
    intro i hi
    have hlt : i < l.length := by omega
    rw [f20_l0_eq, f20_r6]
    refine (lssT (by omega) _).trans ?_
    rw [ite_tt, f20_r7]
    refine (idxL K_23 (Ms_getD hlt) _).trans <| (ldR _).trans ?_
    refine (bstep (sto_nil (P := P) (h := [] ++ [zero P 38]) (id := 0) rfl (tyMsg _) rfl) _).trans ?_
    generalize hm : l.getD i default = m
    have hh : (([] ++ [zero P 38] : List V).set 0 (vMsg m))[0]? = some (vMsg m) := rfl
    refine (chk_r8 (id := 0) hh hlt hn _).trans ?_
    refine (chk_r9 (id := 0) hh _ _).trans ?_
    rw [ite_lt, chkFrom, hm]
    generalize (decide (0 < i) && dupM (l.getD (i - 1) default) m) = db at *
    by_cases hb : (!mR m || db) = true
    · rw [if_pos hb, f20_r10, fin_int]
      have e : (!db && mR m && chkFrom l n (i + 1)) = false := by
        cases h1 : mR m <;> cases h2 : db <;> simp [h1, h2] at hb ⊢
      rw [e]; rfl
    · rw [if_neg hb, f20_r11]
      refine (addT (b := 1) (by omega) _).trans ?_
      have u : underL (List.length ([] : List V)) [cc, vMs g l, vMs g' l, iv l.length, iv (i + 1)] = true := by
        simp only [underL, under_Ms]; rfl
      refine (if_pos u).trans ?_
      have e : (!db && mR m && chkFrom l n (i + 1)) = chkFrom l n (i + 1) := by
        cases h1 : mR m <;> cases h2 : db <;> simp [h1, h2] at hb ⊢
      rw [e]
      exact ih (i + 1) (by omega)

theorem Check_am {f : Fl} {l : List Msg} (hn : l.length ≤ 1000000) : Cl 20 [vMs f l] [] = some (iv (if chkM l = true then 0 else 110), []) := by
  rw [f20_eq, f20_r0, f20_r1, f20_r2]
  refine (lenW und_23 _).trans ?_
  rw [List.length_map]
  by_cases h : l.length ≤ 512
  · refine (gtrF (by omega) _).trans ?_
    rw [ite_ff, f20_r4]
    obtain ⟨g, hg⟩ := reify1_Ms [] f l
    rw [hg]
    refine (bstep (Sort_am g l hn) _).trans ?_
    rw [f20_r5]
    refine (lenW und_23 _).trans ?_
    rw [List.length_map]
    refine (chk_l0 (sortM l) (by rw [sortM_len]; exact hn) .sh .sh (sortM l).length 0 (by omega)).trans ?_
    rw [chkM, decide_eq_true h, sortM_len, Bool.true_and]
  · refine (gtrT (by omega) _).trans ?_
    rw [ite_tt, f20_r3, fin_int, chkM, decide_eq_false h]; rfl

/-! ### batch.Put -/
def txtB (s : List UInt8) : List UInt8 := numB s.length ++ s
def putB (l : List Msg) : List UInt8 := numB l.length ++ ((rowsB l).map txtB).flatten

theorem fin_si (n : Nat) (h : List V) (s : List UInt8) (x : Int) : (if (List.all [V.int .i64 x, V.str s] V.okE) = true then finT n h (V.tup [.str s, .int .i64 x]) else none) = some (.tup [.str s, .int .i64 x], h.take n) := rfl

theorem put_l0 (rs : List (List UInt8)) (hr : ∀ r ∈ rs, r.length ≤ 100) (hn : rs.length ≤ 1000000) : ∀ (n i : Nat) (done : List UInt8), i + n = rs.length → done.length ≤ 200 * i + 100 →
    f17_l0 (rOut 0) (sL .sh rs) (iv rs.length) (iv i) [vOut .own done] = some (.tup [.str (done ++ ((rs.drop i).map txtB).flatten), .int .i64 0], []) := by
  intro n
  induction n with
  | zero =>
    intro i done hi hd
    rw [f17_l0_eq, f17_r7]
    refine (lssF (by omega) _).trans ?_
    rw [ite_ff, f17_r11]
    refine (bstep (OutDone_am (id := 0) (h := [vOut .own done]) rfl) _).trans ?_
    refine (fin_si _ _ _ _).trans ?_
    rw [List.drop_eq_nil_of_le (by omega)]; simp
  | succ n ih =>
    intro i done hi hd
    have hlt : i < rs.length := by omega
    have hg : (rs.map V.str)[i]? = some (V.str rs[i]) := by simp [hlt]
    have hl := hr _ (List.getElem_mem hlt)
    have nb := numBf_len 10 rs[i].length
    rw [f17_l0_eq, f17_r7]
    refine (lssT (by omega) _).trans ?_
    rw [ite_tt, f17_r8]
    refine (idxL K_57 hg _).trans <| (ldR _).trans ?_
    rw [f17_r9]
    have e1 : normL [rOut 0, V.str rs[i]] = [rOut 0, V.str rs[i]] := rfl
    rw [e1]
    refine (bstep (OutText_am (id := 0) (h := [vOut .own done]) rfl (Or.inl rfl) (by omega)) _).trans ?_
    rw [f17_r10]
    refine (addT (b := 1) (by omega) _).trans ?_
    have := ih (i + 1) (done ++ numB rs[i].length ++ rs[i]) (by omega) (by simp only [List.length_append, numB]; omega)
    rw [List.drop_eq_getElem_cons hlt, List.map_cons, List.flatten_cons, txtB]
    simp only [List.append_assoc] at this ⊢
    exact this

theorem Put_am {f : Fl} {l : List Msg} (hl : ∀ m ∈ l, MOk m) (hn : l.length ≤ 1000000) :
    Cl 17 [vMs f l] [] = some (if chkM l = true then .tup [.str (putB l), .int .i64 0] else .tup [.str [], .int .i64 110], []) := by
  rw [f17_eq, f17_r0, f17_r1]
  obtain ⟨g0, hg0⟩ := weak_Ms f l
  obtain ⟨g, hg⟩ := reify1_Ms [] g0 l
  rw [hg0, hg]
  refine (bstep (Check_am hn) _).trans ?_
  rw [f17_r2]
  by_cases hc : chkM l = true
  · rw [if_pos hc, if_pos hc]
    refine (neqF (by simp) _).trans ?_
    rw [ite_ff, f17_r4]
    refine (bstep (NewOut_am _) _).trans ?_
    rw [f17_r5, hg0]
    refine (lenL und_23 _).trans ?_
    rw [List.length_map]
    refine (convI (by omega) (by omega) _).trans ?_
    have e1 : normL [rOut ([] : List V).length, V.int .u64 ((l.length : Int).toNat : Int)] = [rOut 0, V.int .u64 (l.length : Int)] := rfl
    rw [e1]
    have nb := numBf_len 10 l.length
    refine (bstep (OutNum_am (id := 0) (h := [] ++ [vOut .nil []]) rfl (Or.inr rfl) (by omega) (by simp)) _).trans ?_
    rw [f17_r6]
    obtain ⟨g2, hg2⟩ := reify1_Ms (([] ++ [vOut .nil []]).set 0 (vOut .own ([] ++ numB l.length))) f l
    rw [hg2]
    refine (bstep (Rows_am hl hn) _).trans ?_
    refine (lenL und_57 _).trans ?_
    have hlen : (rowsB l).length = l.length := by rw [rowsB, List.length_map, sortM_len]
    have := put_l0 (rowsB l) (by
      intro r hr
      rw [rowsB] at hr
      obtain ⟨m, _, rfl⟩ := List.mem_map.1 hr
      have := rowB_len m; omega) (by omega) (rowsB l).length 0 (numB l.length) (by omega) (by rw [numB]; omega)
    rw [List.drop_zero] at this
    rw [List.length_map]
    exact this
  · rw [if_neg hc, if_neg hc]
    refine (neqT (by simp) _).trans ?_
    rw [ite_tt, f17_r3]
    exact fin_si _ _ _ _
end Go.Proofs.YtmjocdbdbofcbaaDoor
end

section
set_option linter.unusedVariables false
set_option linter.unusedSimpArgs false
set_option linter.unusedSectionVars false
set_option maxRecDepth 100000
namespace Go.Proofs.YtmjocdbdbofcbaaDoor
open Go AM

def getL (s0 : List UInt8) : Nat → List Msg → List UInt8 → List Msg × Nat
  | 0, acc, s => if endIn s 0 ≠ 0 then ([], endIn s 0) else if chkM acc = true ∧ putB acc = s0 then (acc, 0) else ([], 110)
  | n + 1, acc, s => if (textIn 40 s 0).2.2 ≠ 0 then ([], (textIn 40 s 0).2.2) else
      if (msgIn (textIn 40 s 0).1).2 ≠ 0 then ([], (msgIn (textIn 40 s 0).1).2) else getL s0 n (acc ++ [(msgIn (textIn 40 s 0).1).1]) (textIn 40 s 0).2.1
def getM (s : List UInt8) : List Msg × Nat :=
  if (numIn s 0).2.2 ≠ 0 then ([], (numIn s 0).2.2) else if (numIn s 0).1 > 512 then ([], 110) else getL s (numIn s 0).1 [] (numIn s 0).2.1

theorem ret_Ms {n : Nat} {h : List V} {f : Fl} (hf : f ≠ .lent) {l : List Msg} {x : Int} : (if (List.all [V.int .i64 x, vMs f l] V.okE) = true then finT n h (V.tup [vMs f l, .int .i64 x]) else none) = some (.tup [vMs .sh l, .int .i64 x], h.take n) := by
  cases f <;> first | exact absurd rfl hf | rfl

theorem msgIn_ok (s : List UInt8) : MOk (msgIn s).1 := by
  have c : ∀ n : Nat, I64 (cut64 n) := fun n => by simp only [I64, cut64]; omega
  have z : ∀ n : Nat, n < 18446744073709551616 → I64 (zz n) := fun n hn => by simp only [I64, zz]; split <;> omega
  exact ⟨c _, c _, z _ (numIn_lt _ _)⟩

theorem app1M {B : Type} {f : Fl} {h : List V} {l : List Msg} (hf : OK f) (hl : l.length + 1 ≤ 2147483648) (x : Msg) (K' : V → Option B) :
    (bldS P 23 1 [(0, vMsg x)]).bind (fun y => (appd P 23 h (vMs f l) y).bind K') = K' (vMs .own (l ++ [x])) := by
  refine (bstep (bldS1 K_23 (tyMsg x) rfl hs_38 ⟨_, rfl⟩) _).trans ?_
  refine (bstep (appL K_23 hf (y := V.lst 38 .own [vMsg x]) rfl rfl (tyOkL_Ms [x]) (by simpa using hl) hs_38) _).trans ?_
  rw [vMs, List.map_append]; rfl

theorem weakOK {f : Fl} (hf : OK f) (l : List Msg) : ∃ g, g ≠ .lent ∧ (vMs f l).weak = vMs g l := by
  rcases hf with rfl | rfl
  · exact ⟨.sh, (by intro h; cases h), rfl⟩
  · exact ⟨.nil, (by intro h; cases h), rfl⟩
theorem OKne {f : Fl} (hf : OK f) : f ≠ .lent := by rcases hf with rfl | rfl <;> (intro h; cases h)

theorem sNe {B : Type} (a b : List UInt8) (K : V → Option B) : (bin .neq (.str a) (.str b)).bind K = K (.bool (decide (a ≠ b))) := by
  rw [s_neq]; rfl
theorem sEq {B : Type} (a b : List UInt8) (K : V → Option B) : (bin .eql (.str a) (.str b)).bind K = K (.bool (decide (a = b))) := by
  rw [s_eql]; rfl

theorem textIn_len (m : Nat) (s : List UInt8) : (textIn m s 0).2.1.length ≤ s.length := by
  simp only [textIn]
  split
  · simp
  · split <;> simp
theorem textIn_len1 (m : Nat) (s : List UInt8) : (textIn m s 0).1.length ≤ m := by
  simp only [textIn, textL]
  split
  · simp
  · split
    · simp
    · split
      · simp
      · split
        · simp
        · simp only [List.length_take]; omega

theorem get_l1 (s0 : List UInt8) (cnt : Nat) (hc : cnt ≤ 512) : ∀ (n i : Nat) (f : Fl) (acc : List Msg) (s : List UInt8), i + n = cnt → OK f → acc.length = i → (∀ m ∈ acc, MOk m) → s.length < 1000000000 →
    f14_l1 (.str s0) (rIn 0) (vMs f acc) (.int .u64 (cnt : Int)) (.int .u64 (i : Int)) [vIn s 0] = some (.tup [vMs .sh (getL s0 n acc s).1, iv (getL s0 n acc s).2], []) := by
  intro n
  induction n with
  | zero =>
    intro i f acc s hi hf ha hm hl
    rw [f14_l1_eq, f14_r9]
    refine (lssF (by omega) _).trans ?_
    rw [ite_ff, f14_r18]
    have e1 : normL [rIn 0] = [rIn 0] := rfl
    rw [e1]
    refine (bstep (End_am (h := [vIn s 0]) (id := 0) rfl) _).trans ?_
    rw [f14_r19, getL]
    by_cases he : endIn s 0 ≠ 0
    · refine (neqT (by omega) _).trans ?_
      rw [ite_tt, f14_r20, if_pos he]
      exact ret_Ms (f := .nil) (l := []) (by intro h; cases h)
    refine (neqF (by omega) _).trans ?_
    rw [ite_ff, f14_r21, if_neg he]
    obtain ⟨g0, hg0n, hg0⟩ := weakOK hf acc
    obtain ⟨g, hg⟩ := reify1_Ms [vIn s 0] g0 acc
    rw [hg0, hg]
    refine (bstep (Put_am hm (by omega)) _).trans ?_
    by_cases hk : chkM acc = true
    · rw [if_pos hk]
      refine (ext0 _ _ _).trans <| (ext1 _ _ _).trans ?_
      rw [f14_r22]
      refine (neqF (by simp) _).trans ?_
      rw [ite_ff]
      refine (sNe _ _ _).trans ?_
      rw [ite_lt]
      by_cases hp : putB acc = s0
      · rw [if_neg (by simp [hp]), f14_r24, show (if chkM acc = true ∧ putB acc = s0 then (acc, 0) else (([], 110) : List Msg × Nat)) = (acc, 0) from if_pos ⟨hk, hp⟩]
        exact ret_Ms (OKne hf)
      · rw [if_pos (by simp [hp]), f14_r23, show (if chkM acc = true ∧ putB acc = s0 then (acc, 0) else (([], 110) : List Msg × Nat)) = ([], 110) from if_neg (fun h => hp h.2)]
        exact ret_Ms (f := .nil) (l := []) (by intro h; cases h)
    · rw [if_neg hk]
      refine (ext0 _ _ _).trans <| (ext1 _ _ _).trans ?_
      rw [f14_r22]
      refine (neqT (by simp) _).trans ?_
      rw [ite_tt, ite_tt, f14_r23, show (if chkM acc = true ∧ putB acc = s0 then (acc, 0) else (([], 110) : List Msg × Nat)) = ([], 110) from if_neg (fun h => hk h.1)]
      exact ret_Ms (f := .nil) (l := []) (by intro h; cases h)
  | succ n ih =>
    intro i f acc s hi hf ha hm hl
    rw [f14_l1_eq, f14_r9]
    refine (lssT (by omega) _).trans ?_
    rw [ite_tt, f14_r10]
    have e1 : normL [rIn 0, V.int .i64 40] = [rIn 0, V.int .i64 40] := rfl
    have e2 : normL [rIn 0] = [rIn 0] := rfl
    rw [e1]
    refine (bstep (Text_am (h := [vIn s 0]) (id := 0) 40 (by omega) rfl (by omega)) _).trans ?_
    rw [f14_r11, e2, getL]
    have tl := textIn_len 40 s
    have tl1 := textIn_len1 40 s
    generalize textIn 40 s 0 = t at *
    refine (bstep (Err_am (h := [vIn s 0].set 0 (vIn t.2.1 t.2.2)) (id := 0) rfl) _).trans ?_
    by_cases he : t.2.2 ≠ 0
    · refine (neqT (by omega) _).trans ?_
      rw [ite_tt, f14_r12, e2, if_pos he]
      refine (bstep (Err_am (h := [vIn s 0].set 0 (vIn t.2.1 t.2.2)) (id := 0) rfl) _).trans ?_
      exact ret_Ms (f := .nil) (l := []) (by intro h; cases h)
    refine (neqF (by omega) _).trans ?_
    rw [ite_ff, f14_r13, if_neg he]
    have mo := msgIn_ok t.1
    refine (bstep (message_am t.1 (by omega)) _).trans <| (ext0 _ _ _).trans <| (ext1 _ _ _).trans ?_
    generalize msgIn t.1 = m at *
    have he0 : t.2.2 = 0 := by omega
    refine (bstep (sto_nil (P := P) (h := [vIn t.2.1 t.2.2] ++ [zero P 38]) (id := 1) rfl (tyMsg _) rfl) _).trans ?_
    rw [f14_r14]
    by_cases hm2 : m.2 ≠ 0
    · refine (neqT (by omega) _).trans ?_
      rw [ite_tt, f14_r15, if_pos hm2]
      exact ret_Ms (f := .nil) (l := []) (by intro h; cases h)
    refine (neqF (by omega) _).trans ?_
    rw [ite_ff, f14_r16, if_neg hm2]
    refine (bstep (ldP_ref (v := vMsg m.1) (rd_nil rfl)) _).trans ?_
    refine (app1M hf (by omega) _ _).trans ?_
    rw [f14_r17]
    refine (uaddT (b := 1) (by omega) _).trans ?_
    have u : underL (List.length [vIn s 0]) [V.str s0, rIn 0, vMs .own (acc ++ [m.1]), .int .u64 (cnt : Int), .int .u64 ((i + 1 : Nat) : Int)] = true := by
      simp only [underL, under_Ms]; rfl
    refine (if_pos u).trans ?_
    have := ih (i + 1) .own (acc ++ [m.1]) t.2.1 (by omega) (Or.inl rfl) (by simp [ha]) (by
      intro x hx; rcases List.mem_append.1 hx with hx | hx
      · exact hm x hx
      · rw [List.mem_singleton.1 hx]; exact mo) (by omega)
    show f14_l1 _ _ _ _ _ [vIn t.2.1 t.2.2] = _
    rw [he0]
    exact this

theorem Get_am {s : List UInt8} (hl : s.length < 1000000000) : Cl 14 [.str s] [] = some (.tup [vMs .sh (getM s).1, iv (getM s).2], []) := by
  have e0 : normL [V.str s] = [V.str s] := rfl
  have e2 : normL [rIn ([] : List V).length] = [rIn 0] := rfl
  rw [f14_eq, f14_r0, f14_r1, e0]
  refine (bstep (NewIn_am [] s) _).trans ?_
  rw [f14_r2, e2]
  refine (bstep (Num_am (h := [vIn s 0]) (id := 0) rfl (by omega)) _).trans ?_
  have nl := numIn_len s 0
  have nlt := numIn_lt s 0
  rw [f14_r3, e2, getM]
  generalize numIn s 0 = a at *
  refine (bstep (Err_am (h := [vIn s 0].set 0 (vIn a.2.1 a.2.2)) (id := 0) rfl) _).trans ?_
  by_cases he : a.2.2 ≠ 0
  · refine (neqT (by omega) _).trans ?_
    rw [ite_tt, f14_r4, e2, if_pos he]
    refine (bstep (Err_am (h := [vIn s 0].set 0 (vIn a.2.1 a.2.2)) (id := 0) rfl) _).trans ?_
    exact ret_Ms (f := .nil) (l := []) (by intro h; cases h)
  refine (neqF (by omega) _).trans ?_
  rw [ite_ff, f14_r5, if_neg he]
  by_cases h5 : a.1 > 512
  · refine (gtrT (by omega) _).trans ?_
    rw [ite_tt, f14_r6, if_pos h5]
    exact ret_Ms (f := .nil) (l := []) (by intro h; cases h)
  refine (gtrF (by omega) _).trans ?_
  rw [ite_ff, f14_r7, f14_r8, if_neg h5]
  have he0 : a.2.2 = 0 := by omega
  show f14_l1 _ _ _ _ _ [vIn a.2.1 a.2.2] = _
  rw [he0]
  exact get_l1 s a.1 (by omega) a.1 0 .nil [] a.2.1 (by omega) (Or.inr rfl) rfl (by intro m hm; cases hm) (by omega)

/-- what is got may be, and has just these bytes -/
theorem getL_ok (s0 : List UInt8) : ∀ (n : Nat) (acc : List Msg) (s : List UInt8), (∀ m ∈ acc, MOk m) → (getL s0 n acc s).2 = 0 →
    (∀ m ∈ (getL s0 n acc s).1, MOk m) ∧ chkM (getL s0 n acc s).1 = true ∧ putB (getL s0 n acc s).1 = s0 := by
  intro n
  induction n with
  | zero =>
    intro acc s hm h
    rw [getL] at h ⊢
    by_cases he : endIn s 0 ≠ 0
    · rw [if_pos he] at h; exact absurd h he
    · rw [if_neg he] at h ⊢
      by_cases hk : chkM acc = true ∧ putB acc = s0
      · rw [if_pos hk]; exact ⟨hm, hk.1, hk.2⟩
      · rw [if_neg hk] at h; cases h
  | succ n ih =>
    intro acc s hm h
    rw [getL] at h ⊢
    by_cases he : (textIn 40 s 0).2.2 ≠ 0
    · rw [if_pos he] at h; exact absurd h he
    rw [if_neg he] at h ⊢
    by_cases h2 : (msgIn (textIn 40 s 0).1).2 ≠ 0
    · rw [if_pos h2] at h; exact absurd h h2
    rw [if_neg h2] at h ⊢
    refine ih _ _ ?_ h
    intro x hx
    rcases List.mem_append.1 hx with hx | hx
    · exact hm x hx
    · rw [List.mem_singleton.1 hx]; exact msgIn_ok _
theorem getM_ok (s : List UInt8) (h : (getM s).2 = 0) : (∀ m ∈ (getM s).1, MOk m) ∧ chkM (getM s).1 = true ∧ putB (getM s).1 = s := by
  rw [getM] at h ⊢
  by_cases he : (numIn s 0).2.2 ≠ 0
  · rw [if_pos he] at h; exact absurd h he
  rw [if_neg he] at h ⊢
  by_cases h5 : (numIn s 0).1 > 512
  · rw [if_pos h5] at h; cases h
  rw [if_neg h5] at h ⊢
  exact getL_ok s _ _ _ (by intro m hm; cases hm) h
theorem getL_bad (s0 : List UInt8) : ∀ (n : Nat) (acc : List Msg) (s : List UInt8), (getL s0 n acc s).2 ≠ 0 → (getL s0 n acc s).1 = [] := by
  intro n
  induction n with
  | zero =>
    intro acc s h
    rw [getL] at h ⊢
    by_cases he : endIn s 0 ≠ 0
    · rw [if_pos he]
    · rw [if_neg he] at h ⊢
      by_cases hk : chkM acc = true ∧ putB acc = s0
      · rw [if_pos hk] at h; exact absurd rfl h
      · rw [if_neg hk]
  | succ n ih =>
    intro acc s h
    rw [getL] at h ⊢
    by_cases he : (textIn 40 s 0).2.2 ≠ 0
    · rw [if_pos he]
    rw [if_neg he] at h ⊢
    by_cases h2 : (msgIn (textIn 40 s 0).1).2 ≠ 0
    · rw [if_pos h2]
    rw [if_neg h2] at h ⊢
    exact ih _ _ h
theorem getM_bad (s : List UInt8) (h : (getM s).2 ≠ 0) : (getM s).1 = [] := by
  rw [getM] at h ⊢
  by_cases he : (numIn s 0).2.2 ≠ 0
  · rw [if_pos he]
  rw [if_neg he] at h ⊢
  by_cases h5 : (numIn s 0).1 > 512
  · rw [if_pos h5]
  rw [if_neg h5] at h ⊢
  exact getL_bad s _ _ _ h
end Go.Proofs.YtmjocdbdbofcbaaDoor
end

section
set_option linter.unusedVariables false
set_option linter.unusedSimpArgs false
set_option linter.unusedSectionVars false
set_option maxRecDepth 100000
namespace Go.Proofs.YtmjocdbdbofcbaaDoor
open Go AM

theorem chkM_len {l : List Msg} (h : chkM l = true) : l.length ≤ 512 := by
  simp only [chkM, Bool.and_eq_true, decide_eq_true_eq] at h; exact h.1

end Go.Proofs.YtmjocdbdbofcbaaDoor
end

section
set_option linter.unusedVariables false
set_option linter.unusedSimpArgs false
set_option linter.unusedSectionVars false
set_option maxRecDepth 100000
namespace Go.Proofs.YtmjocdbdbofcbaaDoor
open Go AM

def m1 : Msg := ⟨0, 1, 5⟩
theorem mok1 : ∀ m ∈ [m1], MOk m := by
  intro m hm; rw [List.mem_singleton.1 hm]; refine ⟨?_, ?_, ?_⟩ <;> simp [I64, m1]
theorem chk1 : chkM [m1] = true := by decide +kernel
theorem put1 : putB [m1] = [1, 3, 0, 1, 10] := by decide +kernel
theorem get1 : getM [1, 3, 0, 1, 10] = ([m1], 0) := by decide +kernel
theorem rows1 : rowsB [m1] = [[0, 1, 10]] := by decide +kernel

theorem rows57 : Cl 57 [vMs .sh [m1]] [] = some (sL .sh [[0, 1, 10]], []) := callW_run.2 ⟨60, by kernel_rfl⟩
theorem same16 : Cl 16 [vMs .sh [m1], vMs .sh [m1]] [] = some (.bool true, []) := callW_run.2 ⟨60, by kernel_rfl⟩

theorem m1_treeB : brootB [m1] = treeB [[0, 1, 10]] := by rw [brootB, rows1]
theorem root19 : Cl 19 [vMs .sh [m1]] [] = some (A32 (treeB [[0, 1, 10]]), []) := by
  rw [← m1_treeB]; exact BRoot_am mok1 (by simp)
theorem root32 : Cl 32 [vMs .sh [m1]] [] = some (A32 (treeB [[0, 1, 10]]), []) := by
  rw [f32_eq, zero32]
  have h := rows57
  have hr : ∀ g, Cl 56 [sL g [[0, 1, 10]]] [] = _ := fun g => refTRoot_am (l := [[0, 1, 10]]) (g := g) (by simp) (by intro s hs; rw [List.mem_singleton.1 hs]; simp)
  have e : V.reify [A32 (List.replicate 32 0)] (vMs .sh [m1]) = vMs .sh [m1] := rfl
  have e2 : V.reify [A32 (List.replicate 32 0)] (sL .sh [[0, 1, 10]]) = sL .sh [[0, 1, 10]] := rfl
  simp (disch := first | assumption | omega | (with_reducible rfl) | (simp only [go_sem]; done) | (simp only [go_sem]; omega) | fail) only [↓reduceIte, ↓jn_eq, Nat.reduceAdd, go_sem, e, e2, h, hr]
theorem eqvL_bytes : ∀ l : List UInt8, eqvL (bytesOf l) (bytesOf l) = some true
  | [] => rfl
  | x :: l => by
    have : bytesOf (x :: l) = .int .u8 (x.toNat : Int) :: bytesOf l := rfl
    rw [this]
    simp [eqvL, eqv, eqvL_bytes l]
theorem eqOk_h : (eqOk P 12 33 && !P.eqGuardType P.depth 33) = true := by kernel_rfl
theorem binT_A32 (l : List UInt8) : binT P 33 .eql (A32 l) (A32 l) = some (.bool true) := by
  have : eqv (A32 l) (A32 l) = some true := by simp [A32, eqv, eqvL_bytes]
  rw [binT, eqOk_h, tyA32, this]; rfl

theorem awake11 : Cl 13 [] [] = some (.bool true, []) := by
  rw [f13_eq, f13_r0, f13_r1]
  have b : bld P 38 [(1, .int .i64 1), (2, .int .i64 5)] = some (vMsg m1) := by
    simp [bld, K_38, zr_38, setParts, tyOk, K_3, K_2, scalOk, und_3, und_2, cp, hs_3, hs_2, vMsg, m1]
  refine (bstep b _).trans ?_
  refine (bstep (show bldS P 23 1 [(0, vMsg m1)] = some (vMs .own [m1]) from bldS1 K_23 (tyMsg m1) rfl hs_38 ⟨_, rfl⟩) _).trans ?_
  rw [f13_r2]
  have e1 : reifyL [] [(vMs .own [m1]).weak] = [vMs .sh [m1]] := rfl
  rw [e1]
  refine (bstep (Put_am mok1 (by simp)) _).trans ?_
  rw [if_pos chk1, put1]
  refine (ext0 _ _ _).trans <| (ext1 _ _ _).trans ?_
  rw [f13_r3]
  refine (bstep (Get_am (s := [1, 3, 0, 1, 10]) (by simp)) _).trans ?_
  rw [get1]
  refine (bstep (show extS (.tup [vMs .sh [m1], iv 0]) 0 = some (vMs .sh [m1]) from rfl) _).trans <| (ext1 _ _ _).trans ?_
  rw [f13_r4]
  refine (sEq _ _ _).trans ?_
  rw [decide_eq_true rfl, ite_tt]
  refine (eqlT rfl _).trans ?_
  rw [ite_tt]
  refine (bstep same16 _).trans ?_
  rw [ite_tt]
  refine (eqlT rfl _).trans ?_
  rw [ite_tt]
  refine (bstep (Check_am (f := .sh) (l := [m1]) (by simp)) _).trans ?_
  rw [if_pos chk1]
  refine (eqlT rfl _).trans ?_
  rw [ite_tt]
  refine (bstep root19 _).trans <| (bstep root32 _).trans <| (bstep (binT_A32 _) _).trans ?_
  rw [ite_tt]
  have e3 : reifyL [] [vMs .own [m1]] = [vMs .sh [m1]] := rfl
  rw [e3]
  refine (bstep (Rows_am mok1 (by simp)) _).trans ?_
  rw [rows1]
  refine (lenL und_57 _).trans <| (eqlT (by simp) _).trans ?_
  rfl

#print axioms awake11
end Go.Proofs.YtmjocdbdbofcbaaDoor
end

section
set_option linter.unusedVariables false
set_option linter.unusedSimpArgs false
set_option linter.unusedSectionVars false
set_option maxRecDepth 100000
namespace Go.Proofs.YtmjocdbdbofcbaaDoor
open Go AM

theorem sortM_sorted (l : List Msg) : (sortM l).Pairwise fun x y => (!ltM y x) = true := by
  refine List.pairwise_mergeSort ?_ ?_ l
  · intro a b c h1 h2
    simp only [Bool.not_eq_true'] at h1 h2 ⊢
    exact ltM_swo.ntrans c b a h2 h1
  · intro a b
    simp only [Bool.or_eq_true, Bool.not_eq_true']
    cases h : ltM b a with
    | false => exact Or.inl rfl
    | true =>
      right
      cases h2 : ltM a b with
      | false => rfl
      | true => have := ltM_swo.trans _ _ _ h h2; rw [ltM_swo.irrefl] at this; cases this
theorem perm_unique {l m : List Msg} (hl : l.Pairwise fun x y => (!ltM y x) = true) (hm : m.Pairwise fun x y => (!ltM y x) = true) (h : l.Perm m) : l = m := by
  refine List.Perm.eq_of_pairwise (le := fun x y => (!ltM y x) = true) ?_ hl hm h
  intro a b _ _ h1 h2
  simp only [Bool.not_eq_true'] at h1 h2
  exact ltM_eq a b h2 h1
theorem sortM_perm {l m : List Msg} (h : l.Perm m) : sortM l = sortM m :=
  perm_unique (sortM_sorted l) (sortM_sorted m) ((List.mergeSort_perm l _).trans (h.trans (List.mergeSort_perm m _).symm))

theorem chkM_perm {l m : List Msg} (h : l.Perm m) : chkM l = chkM m := by rw [chkM, chkM, h.length_eq, sortM_perm h]
theorem putB_perm {l m : List Msg} (h : l.Perm m) : putB l = putB m := by rw [putB, putB, rowsB, rowsB, h.length_eq, sortM_perm h]
theorem Get_am' {s : List UInt8} (hl : s.length < 1000000000) : Cl 14 [.str s] [] = some (.tup [.lst 38 .sh ((getM s).1.map vMsg), .int .i64 ((getM s).2 : Int)], []) := Get_am hl

/-! ### hashes compared -/
theorem eqvL_ne : ∀ a b : List UInt8, a.length = b.length → eqvL (bytesOf a) (bytesOf b) = some (decide (a = b))
  | [], [], _ => rfl
  | x :: a, y :: b, h => by
    have e : ∀ (z : UInt8) (l : List UInt8), bytesOf (z :: l) = .int .u8 (z.toNat : Int) :: bytesOf l := fun _ _ => rfl
    rw [e, e]
    simp only [eqvL, eqv, if_true, Option.bind_some]
    by_cases hxy : x = y
    · subst hxy
      simp [eqvL_ne a b (by simpa using h)]
    · have : ¬ (x.toNat : Int) = (y.toNat : Int) := fun h => hxy (UInt8.toNat_inj.1 (by omega))
      simp [this, hxy]
  | [], _ :: _, h => by simp at h
  | _ :: _, [], h => by simp at h
@[go_sem] theorem eqA {a b : List UInt8} (ha : a.length = 32) (hb : b.length = 32) : eqT (tyG 32) .eql (A32 a) (A32 b) = some (.bool (decide (a = b))) := by
  have h : eqv (A32 a) (A32 b) = some (decide (a = b)) := by simp only [A32, eqv, if_true, eqvL_ne a b (by omega)]
  simp only [eqT, tyG_A32, Bool.and_self, if_true, h, Option.map_some]
@[go_sem] theorem neA {a b : List UInt8} (ha : a.length = 32) (hb : b.length = 32) : eqT (tyG 32) .neq (A32 a) (A32 b) = some (.bool (!decide (a = b))) := by
  have h : eqv (A32 a) (A32 b) = some (decide (a = b)) := by simp only [A32, eqv, if_true, eqvL_ne a b (by omega)]
  simp only [eqT, tyG_A32, Bool.and_self, if_true, h, Option.map_some]
@[go_sem] theorem brootB_len (l : List Msg) : (brootB l).length = 32 := rootB_len _ _

/-! ### the law -/
end Go.Proofs.YtmjocdbdbofcbaaDoor
end

section
set_option linter.unusedVariables false
set_option linter.unusedSimpArgs false
set_option linter.unusedSectionVars false
set_option maxRecDepth 100000
namespace Go.Proofs.YtmjocdbdbofcbaaDoor
open Go AM

theorem eqv_msg (a b : Msg) : eqv (vMsg a) (vMsg b) = some (decide (a = b)) := by
  simp only [vMsg, eqv, eqvL, if_true, Option.bind_some]
  by_cases h1 : a.fr = b.fr <;> by_cases h2 : a.to = b.to <;> by_cases h3 : a.val = b.val <;> cases a <;> cases b <;> simp_all
@[go_sem] theorem eqM (a b : Msg) : eqT (tyG 37) .eql (vMsg a) (vMsg b) = some (.bool (decide (a = b))) := by
  simp only [eqT, tyG_vMsg, Bool.and_self, if_true, eqv_msg, Option.map_some]
@[go_sem] theorem neM (a b : Msg) : eqT (tyG 37) .neq (vMsg a) (vMsg b) = some (.bool (!decide (a = b))) := by
  simp only [eqT, tyG_vMsg, Bool.and_self, if_true, eqv_msg, Option.map_some]
theorem msg_at {l : List Msg} {i : Nat} (h : i < l.length) : (l.map vMsg)[i]? = some (vMsg (l.getD i default)) := Ms_getD h

theorem same_l0 {f g : Fl} {l m : List Msg} (hlm : l.length = m.length) (hn : l.length ≤ 1000000) : ∀ (n i : Nat), i + n = l.length →
    f16_l0 (.lst 38 f (l.map vMsg)) (.lst 38 g (m.map vMsg)) (.int .i64 (i : Int)) = some (.bool (decide (l.drop i = m.drop i)), []) := by
  intro n
  induction n with
  | zero =>
    intro i hi
    rw [f16_l0_eq, List.drop_eq_nil_of_le (by omega), List.drop_eq_nil_of_le (by omega)]
    simp (disch := first | assumption | omega | (with_reducible rfl) | (simp only [go_sem]; done) | (simp only [go_sem]; omega) | fail) only [↓reduceIte, ↓jn_eq, Nat.reduceAdd, go_sem, decide_true]
  | succ n ih =>
    intro i hi
    have h1 : i < l.length := by omega
    have h2 : i < m.length := by omega
    have e1 : l.getD i default = l[i] := by rw [List.getD_eq_getElem?_getD, List.getElem?_eq_getElem h1]; rfl
    have e2 : m.getD i default = m[i] := by rw [List.getD_eq_getElem?_getD, List.getElem?_eq_getElem h2]; rfl
    rw [f16_l0_eq, List.drop_eq_getElem_cons h1, List.drop_eq_getElem_cons h2]
    by_cases h : l[i] = m[i]
    · simp (disch := first | assumption | omega | (with_reducible rfl) | (simp only [go_sem]; done) | (simp only [go_sem]; omega) | fail) only [↓reduceIte, ↓jn_eq, Nat.reduceAdd, go_sem, msg_at h1, msg_at h2, e1, e2, h, ih (i + 1) (by omega), List.cons.injEq, true_and]
    · simp (disch := first | assumption | omega | (with_reducible rfl) | (simp only [go_sem]; done) | (simp only [go_sem]; omega) | fail) only [↓reduceIte, ↓jn_eq, Nat.reduceAdd, go_sem, msg_at h1, msg_at h2, e1, e2, List.cons.injEq]
      rw [decide_eq_false (fun h' => h h'.1)]
theorem refSame_am {f g : Fl} {l m : List Msg} (hn : l.length ≤ 1000000) (hm : m.length ≤ 1000000) :
    Cl 16 [.lst 38 f (l.map vMsg), .lst 38 g (m.map vMsg)] [] = some (.bool (decide (l = m)), []) := by
  rw [f16_eq]
  by_cases h : l.length = m.length
  · have := same_l0 (f := f) (g := g) h hn l.length 0 (by omega)
    simp (disch := first | assumption | omega | (with_reducible rfl) | (simp only [go_sem]; done) | (simp only [go_sem]; omega) | fail) only [↓reduceIte, ↓jn_eq, Nat.reduceAdd, go_sem, h]
    exact this
  · simp (disch := first | assumption | omega | (with_reducible rfl) | (simp only [go_sem]; done) | (simp only [go_sem]; omega) | fail) only [↓reduceIte, ↓jn_eq, Nat.reduceAdd, go_sem]
    rw [decide_eq_false (fun e => h (by rw [e]))]

theorem Less_am (a b : Msg) : Cl 42 [vMsg a, vMsg b] [] = some (.bool (ltM a b), []) := by
  rw [f42_eq]
  have hc := cmp_neg a b
  by_cases h1 : a.to = b.to <;> by_cases h2 : a.fr = b.fr <;> simp (disch := first | assumption | omega | (with_reducible rfl) | (simp only [go_sem]; done) | (simp only [go_sem]; omega) | fail) only [↓reduceIte, ↓jn_eq, Nat.reduceAdd, go_sem, vMsg]
  all_goals
    congr 3
    rw [Bool.eq_iff_iff, decide_eq_true_iff, hc]; omega

/-! ### sorted by putting in -/
theorem getD_lt {l : List Msg} {i : Nat} (h : i < l.length) : l.getD i default = l[i] := by
  rw [List.getD_eq_getElem?_getD, List.getElem?_eq_getElem h]; rfl
end Go.Proofs.YtmjocdbdbofcbaaDoor
end

section
set_option linter.unusedVariables false
set_option linter.unusedSimpArgs false
set_option linter.unusedSectionVars false
set_option maxRecDepth 100000
namespace Go.Proofs.YtmjocdbdbofcbaaDoor
open Go AM

theorem numL_enc : ∀ (f n k v : Nat) (rest : List UInt8), n < 128 ^ f → 0 < f → (0 < k → 0 < n) → n * 128 ^ k < 18446744073709551616 → k ≤ 9 →
    numL k v (numBf f n ++ rest) = (v + n * 128 ^ k, k + (numBf f n).length, 0) := by
  intro f
  induction f with
  | zero => intro n k v rest _ h; omega
  | succ f ih =>
    intro n k v rest hn _ h0 hb h9
    have k9 : k = 9 → n < 2 := by
      rintro rfl
      rcases Nat.lt_or_ge n 2 with h | h
      · exact h
      · have : 2 * 128 ^ 9 ≤ n * 128 ^ 9 := Nat.mul_le_mul_right _ h
        have e : (128 : Nat) ^ 9 = 9223372036854775808 := by decide
        omega
    rw [numBf]
    by_cases h : n < 128
    · rw [if_pos h]
      have e : (UInt8.ofNat n).toNat = n := by rw [UInt8.toNat_ofNat']; exact Nat.mod_eq_of_lt (by omega)
      simp only [List.cons_append, List.nil_append, numL, e]
      rw [if_neg (by
        rintro (⟨a, b⟩ | ⟨a, b⟩)
        · have := k9 a; omega
        · have := h0 a; omega), if_pos h, Nat.mod_eq_of_lt h]
      rfl
    · rw [if_neg h]
      have e : (UInt8.ofNat (n % 128 + 128)).toNat = n % 128 + 128 := by rw [UInt8.toNat_ofNat']; exact Nat.mod_eq_of_lt (by omega)
      simp only [List.cons_append, numL, e]
      have hk : k < 9 := by
        rcases Nat.lt_or_ge k 9 with h' | h'
        · exact h'
        · have := k9 (by omega); omega
      have hf : 0 < f := by
        rcases Nat.eq_zero_or_pos f with h' | h'
        · subst h'; simp at hn; omega
        · exact h'
      rw [if_neg (by omega), if_neg (by omega)]
      have e1 : (n % 128 + 128) % 128 = n % 128 := by omega
      have e2 : n % 128 * 128 ^ k + n / 128 * 128 ^ (k + 1) = n * 128 ^ k := by
        rw [Nat.pow_succ, Nat.mul_comm (128 ^ k) 128, ← Nat.mul_assoc, ← Nat.add_mul]
        congr 1; omega
      rw [ih (n / 128) (k + 1) _ rest (by rw [Nat.pow_succ] at hn; omega) hf (fun _ => by omega) (by omega) (by omega), e1]
      refine Prod.ext ?_ (Prod.ext ?_ rfl)
      · simp only []; omega
      · simp only [List.length_cons]; omega

theorem numIn_enc {n : Nat} (hn : n < 18446744073709551616) (rest : List UInt8) : numIn (numB n ++ rest) 0 = (n, rest, 0) := by
  have h := numL_enc 10 n 0 0 rest (Nat.lt_of_lt_of_le hn (by decide)) (by omega) (by omega) (by omega) (by omega)
  simp only [Nat.zero_add, Nat.pow_zero, Nat.mul_one] at h
  simp only [numIn, ne_eq, not_true_eq_false, if_false, numB, h, if_true]
  refine Prod.ext rfl (Prod.ext ?_ rfl)
  simp
theorem textIn_enc {s : List UInt8} {m : Nat} (hm : s.length ≤ m) (hs : s.length < 18446744073709551616) (rest : List UInt8) : textIn m (txtB s ++ rest) 0 = (s, rest, 0) := by
  have h := numL_enc 10 s.length 0 0 (s ++ rest) (Nat.lt_of_lt_of_le hs (by decide)) (by omega) (by omega) (by omega) (by omega)
  simp only [Nat.zero_add, Nat.pow_zero, Nat.mul_one] at h
  have e : txtB s ++ rest = numBf 10 s.length ++ (s ++ rest) := by rw [txtB, numB, List.append_assoc]
  simp only [textIn, ne_eq, not_true_eq_false, if_false, textL, e, h]
  rw [if_neg (by omega), if_neg (by simp only [List.length_append]; omega)]
  simp only [if_true]
  refine Prod.ext ?_ (Prod.ext ?_ rfl)
  · simp
  · simp only []
    rw [← List.append_assoc, List.drop_append_of_le_length (by simp), List.drop_of_length_le (by simp)]; rfl
theorem zz_unz {n : Int} (h : I64 n) : zz (unz n) = n ∧ unz n < 18446744073709551616 := by
  simp only [I64] at h
  simp only [zz, unz]
  split <;> refine ⟨?_, by omega⟩ <;> split <;> omega
theorem msgIn_enc {m : Msg} (hm : MOk m) (h : mR m = true) : msgIn (rowB m) = (m, 0) := by
  simp only [mR, inR, Bool.and_eq_true, decide_eq_true_eq] at h
  obtain ⟨⟨⟨⟨h1, h2⟩, h3, h4⟩, h5⟩, h6⟩ := h
  have e : rowB m = numB m.fr.toNat ++ (numB m.to.toNat ++ (numB (unz m.val) ++ [])) := by rw [rowB, if_neg (by omega), List.append_nil, List.append_assoc]
  obtain ⟨z1, z2⟩ := zz_unz hm.2.2
  simp only [msgIn, e, numIn_enc (show m.fr.toNat < 18446744073709551616 by omega), numIn_enc (show m.to.toNat < 18446744073709551616 by omega), numIn_enc z2, endIn, cut64, z1]
  refine Prod.ext ?_ (by simp)
  cases m
  simp only [Msg.mk.injEq, and_true]
  simp only [] at h1 h2 h3 h4
  omega

/-! ### which batches may be -/
theorem chkFrom_iff (l : List Msg) : ∀ n i, chkFrom l n i = true ↔ ∀ j, i ≤ j → j < i + n → mR (l.getD j default) = true ∧ (0 < j → dupM (l.getD (j - 1) default) (l.getD j default) = false)
  | 0, i => by simp only [chkFrom, true_iff]; intro j h1 h2; omega
  | n + 1, i => by
    simp only [chkFrom, Bool.and_eq_true, Bool.not_eq_true', Bool.and_eq_false_iff, decide_eq_false_iff_not, chkFrom_iff l n (i + 1)]
    constructor
    · rintro ⟨⟨h1, h2⟩, h3⟩ j hj hj2
      by_cases e : j = i
      · subst e
        exact ⟨h2, fun h0 => h1.resolve_left (by omega)⟩
      · exact h3 j (by omega) (by omega)
    · intro h
      refine ⟨⟨?_, (h i (by omega) (by omega)).1⟩, fun j h1 h2 => h j (by omega) (by omega)⟩
      by_cases h0 : 0 < i
      · exact Or.inr ((h i (by omega) (by omega)).2 h0)
      · exact Or.inl h0
def keyLt (a b : Msg) : Prop := a.to < b.to ∨ (a.to = b.to ∧ a.fr < b.fr)
theorem key_of {a b : Msg} (h : ltM b a = false) (hd : dupM a b = false) : keyLt a b := by
  rw [cmp_neg'] at h
  simp only [dupM, Bool.and_eq_false_iff, decide_eq_false_iff_not] at hd
  simp only [keyLt]; omega
def noDup (l : List Msg) : Prop := l.Pairwise fun a b => dupM a b = false
theorem noDup_perm {l m : List Msg} (h : l.Perm m) : noDup l ↔ noDup m := by
  refine h.pairwise_iff ?_
  intro a b hab
  simp only [dupM, Bool.and_eq_false_iff, decide_eq_false_iff_not] at hab ⊢
  omega
theorem noDup_adj {l : List Msg} (hs : l.Pairwise fun x y => (!ltM y x) = true) : noDup l ↔ ∀ j, 0 < j → j < l.length → dupM (l.getD (j - 1) default) (l.getD j default) = false := by
  constructor
  · intro h j h0 hj
    have := List.pairwise_iff_getElem.1 h (j - 1) j (by omega) hj (by omega)
    rw [getD_lt hj, getD_lt (by omega)]; exact this
  · intro h
    have step : ∀ i (hi : i + 1 < l.length), keyLt l[i] l[i + 1] := by
      intro i hi
      have d := h (i + 1) (by omega) hi
      rw [getD_lt hi, getD_lt (by omega)] at d
      have s := List.pairwise_iff_getElem.1 hs i (i + 1) (by omega) hi (by omega)
      simp only [Bool.not_eq_true'] at s
      exact key_of s d
    have far : ∀ n i (hi : i + 1 + n < l.length), keyLt l[i] l[i + 1 + n] := by
      intro n
      induction n with
      | zero => intro i hi; exact step i hi
      | succ n ih =>
        intro i hi
        have a := ih i (by omega)
        have b := step (i + 1 + n) (by omega)
        simp only [keyLt] at a b ⊢
        have e : i + 1 + (n + 1) = i + 1 + n + 1 := by omega
        simp only [e]
        omega
    refine List.pairwise_iff_getElem.2 fun i j hi hj hij => ?_
    have := far (j - i - 1) i (by omega)
    have e : i + 1 + (j - i - 1) = j := by omega
    simp only [e, keyLt] at this
    simp only [dupM, Bool.and_eq_false_iff, decide_eq_false_iff_not]; omega
theorem chkM_iff (l : List Msg) : chkM l = true ↔ l.length ≤ 512 ∧ (∀ m ∈ l, mR m = true) ∧ noDup l := by
  have hp : (sortM l).Perm l := List.mergeSort_perm l _
  simp only [chkM, Bool.and_eq_true, decide_eq_true_eq, chkFrom_iff, ← noDup_perm hp, noDup_adj (sortM_sorted l), sortM_len]
  refine and_congr_right fun h5 => ?_
  constructor
  · intro h
    refine ⟨fun m hm => ?_, fun j h0 hj => (h j (by omega) (by omega)).2 h0⟩
    obtain ⟨j, hj, rfl⟩ := List.mem_iff_getElem.1 (hp.mem_iff.2 hm)
    rw [sortM_len] at hj
    have := (h j (by omega) (by omega)).1
    rwa [getD_lt (by rw [sortM_len]; exact hj)] at this
  · rintro ⟨h1, h2⟩ j _ hj
    refine ⟨?_, fun h0 => h2 j h0 (by omega)⟩
    rw [getD_lt (by rw [sortM_len]; omega)]
    exact h1 _ (hp.mem_iff.1 (List.getElem_mem _))
/-! ### a batch is read again -/
theorem getL_enc (s0 : List UInt8) (l : List Msg) (hl : ∀ m ∈ l, MOk m ∧ mR m = true) : ∀ (acc : List Msg), getL s0 l.length acc ((l.map fun m => txtB (rowB m)).flatten) = if chkM (acc ++ l) = true ∧ putB (acc ++ l) = s0 then (acc ++ l, 0) else ([], 110) := by
  induction l with
  | nil =>
    intro acc
    simp only [List.length_nil, getL, List.map_nil, List.flatten_nil, endIn, List.append_nil]
    simp
  | cons m l ih =>
    intro acc
    have h := hl m (by simp)
    have e := textIn_enc (s := rowB m) (m := 40) (by have := rowB_len m; omega) (by have := rowB_len m; omega) ((l.map fun m => txtB (rowB m)).flatten)
    simp only [List.length_cons, getL, List.map_cons, List.flatten_cons, e, msgIn_enc h.1 h.2, ne_eq, not_true_eq_false, if_false]
    rw [ih (fun m hm => hl m (by simp [hm]))]
    simp only [List.append_assoc, List.singleton_append]
theorem getM_put {l : List Msg} (hl : ∀ m ∈ l, MOk m) (hc : chkM l = true) : getM (putB l) = (sortM l, 0) := by
  obtain ⟨c1, c2, c3⟩ := (chkM_iff l).1 hc
  have e : (rowsB l).map txtB = (sortM l).map fun m => txtB (rowB m) := by rw [rowsB, List.map_map]; rfl
  have hn := numIn_enc (n := l.length) (by omega) (((rowsB l).map txtB).flatten)
  have hp : (sortM l).Perm l := List.mergeSort_perm l _
  rw [getM, putB, hn]
  simp only [ne_eq, not_true_eq_false, if_false]
  rw [if_neg (by omega), e]
  have := getL_enc (numB l.length ++ ((sortM l).map fun m => txtB (rowB m)).flatten) (sortM l) (fun m hm => ⟨hl m (hp.mem_iff.1 hm), c2 m (hp.mem_iff.1 hm)⟩) []
  rw [sortM_len] at this
  rw [this, List.nil_append, if_pos]
  refine ⟨by rw [chkM_perm hp]; exact hc, ?_⟩
  rw [putB_perm hp, putB, e]
end Go.Proofs.YtmjocdbdbofcbaaDoor
end

section
set_option linter.unusedVariables false
set_option linter.unusedSimpArgs false
set_option linter.unusedSectionVars false
set_option maxRecDepth 100000
namespace Go.Proofs.YtmjocdbdbofcbaaDoor
open Go AM

@[go_sem] theorem umulN {a b : Nat} (h : a * b < 18446744073709551616) : bin .mul (.int .u64 (a : Int)) (.int .u64 (b : Int)) = some (.int .u64 ((a * b : Nat) : Int)) := by
  have e : ((a * b : Nat) : Int) = (a : Int) * (b : Int) := by push_cast; rfl
  rw [b_mul, ← e, wrap_u64 (by omega) (by omega)]
theorem umulW (a : Int) (b : Int) : bin .mul (.int .u64 a) (.int .u64 b) = some (.int .u64 (IntKind.wrap .u64 (a * b))) := b_mul ..
@[go_sem high] theorem uaddN {a b : Nat} (h : a + b < 18446744073709551616) : bin .add (.int .u64 (a : Int)) (.int .u64 (b : Int)) = some (.int .u64 ((a + b : Nat) : Int)) := by
  rw [b_add, wrap_u64 (by omega) (by omega)]; congr 2
@[go_sem] theorem urem128 (a : Nat) : bin .rem (.int .u64 (a : Int)) (.int .u64 128) = some (.int .u64 ((a % 128 : Nat) : Int)) := remN (b := 128) (by decide) .u64
@[go_sem] theorem urem2 (a : Nat) : bin .rem (.int .u64 (a : Int)) (.int .u64 2) = some (.int .u64 ((a % 2 : Nat) : Int)) := remN (b := 2) (by decide) .u64
@[go_sem] theorem uquo2 {a : Nat} (h : a < 18446744073709551616) : bin .quo (.int .u64 (a : Int)) (.int .u64 2) = some (.int .u64 ((a / 2 : Nat) : Int)) := by
  rw [b_quo _ _ _ (by omega), show (a : Int).tdiv 2 = ((a / 2 : Nat) : Int) from rfl, wrap_u64 (by omega) (by omega)]

theorem refnum_l0 : ∀ (cs s : List UInt8) (k v : Nat), s.drop k = cs → k ≤ s.length → k ≤ 9 → s.length < 4611686018427387904 → v < 128 ^ k →
    f65_l0 (.str s) (.int .u64 (v : Int)) (.int .u64 ((128 ^ k : Nat) : Int)) (.int .i64 (k : Int)) = some (.tup [.int .u64 ((numL k v cs).1 : Int), .int .i64 ((numL k v cs).2.1 : Int), .int .i64 ((numL k v cs).2.2 : Int)], []) := by
  intro cs
  induction cs with
  | nil =>
    intro s k v hd hk h9 hl hv
    have hk' : ¬ k < s.length := by
      have := congrArg List.length hd
      simp at this; omega
    rw [f65_l0_eq]
    simp (disch := first | assumption | omega | (with_reducible rfl) | (simp only [go_sem]; done) | (simp only [go_sem]; omega) | fail) only [↓reduceIte, ↓jn_eq, Nat.reduceAdd, go_sem, numL]
    rfl
  | cons c cs ih =>
    intro s k v hd hk h9 hl hv
    have hb : s[k]? = some c := by
      have := congrArg (·[0]?) hd
      simpa [List.getElem?_drop] using this
    have hlt : k < s.length := lt_get hb
    have hd' : s.drop (k + 1) = cs := by
      rw [← List.drop_drop, hd]; rfl
    have hc : c.toNat < 256 := c.toNat_lt
    rw [f65_l0_eq, numL]
    by_cases hbad : (k = 9 ∧ 1 < c.toNat) ∨ (0 < k ∧ c.toNat = 0)
    · rw [if_pos hbad]
      by_cases h1 : 0 < k
      · by_cases h2 : c.toNat = 0
        · simp (disch := first | assumption | omega | (with_reducible rfl) | (simp only [go_sem]; done) | (simp only [go_sem]; omega) | fail) only [↓reduceIte, ↓jn_eq, Nat.reduceAdd, go_sem, hb, h2]
          rfl
        · by_cases h3 : k = 9
          · simp (disch := first | assumption | omega | (with_reducible rfl) | (simp only [go_sem]; done) | (simp only [go_sem]; omega) | fail) only [↓reduceIte, ↓jn_eq, Nat.reduceAdd, go_sem, hb]
            rfl
          · omega
      · omega
    · rw [if_neg hbad]
      have e : 128 ^ k = 2 ^ (7 * k) := by rw [Nat.pow_mul]
      have hp : 128 ^ k ≤ 2 ^ 63 := by rw [e]; exact Nat.pow_le_pow_right (by omega) (by omega)
      have hpv : c.toNat % 128 * 128 ^ k + v < 18446744073709551616 := by
        by_cases h : k = 9
        · have h1 : c.toNat % 128 ≤ 1 := by omega
          have : c.toNat % 128 * 128 ^ k ≤ 1 * 128 ^ k := Nat.mul_le_mul_right _ h1
          omega
        · have hp8 : 128 ^ k ≤ 2 ^ 56 := by rw [e]; exact Nat.pow_le_pow_right (by omega) (by omega)
          have : c.toNat % 128 * 128 ^ k ≤ 127 * 2 ^ 56 := Nat.mul_le_mul (by omega) hp8
          omega
      have hm : bin .mul (.int .u64 ((c.toNat % 128 : Nat) : Int)) (.int .u64 ((128 ^ k : Nat) : Int)) = some (.int .u64 ((c.toNat % 128 * 128 ^ k : Nat) : Int)) := umulN (by omega)
      have ha : bin .add (.int .u64 (v : Int)) (.int .u64 ((c.toNat % 128 * 128 ^ k : Nat) : Int)) = some (.int .u64 ((v + c.toNat % 128 * 128 ^ k : Nat) : Int)) := uaddN (by omega)
      have hr : (if c.toNat < 128 then (v + c.toNat % 128 * 128 ^ k, k + 1, 0) else numL (k + 1) (v + c.toNat % 128 * 128 ^ k) cs) = numL k v (c :: cs) := by rw [numL, if_neg hbad]
      rw [hr]
      have h3 : k = 9 → ¬ 1 < c.toNat := fun h h' => hbad (Or.inl ⟨h, h'⟩)
      have h2 : 0 < k → ¬ c.toNat = 0 := fun h h' => hbad (Or.inr ⟨h, h'⟩)
      by_cases h : c.toNat < 128
      · rw [← hr, if_pos h]
        by_cases h1 : 0 < k
        · have := h2 h1
          by_cases h4 : k = 9
          · have := h3 h4
            simp (disch := first | assumption | omega | (with_reducible rfl) | (simp only [go_sem]; done) | (simp only [go_sem]; omega) | fail) only [↓reduceIte, ↓jn_eq, Nat.reduceAdd, go_sem, hb, hm, ha, umulW]
            rfl
          · simp (disch := first | assumption | omega | (with_reducible rfl) | (simp only [go_sem]; done) | (simp only [go_sem]; omega) | fail) only [↓reduceIte, ↓jn_eq, Nat.reduceAdd, go_sem, hb, hm, ha, umulW]
            rfl
        · have : ¬ k = 9 := by omega
          simp (disch := first | assumption | omega | (with_reducible rfl) | (simp only [go_sem]; done) | (simp only [go_sem]; omega) | fail) only [↓reduceIte, ↓jn_eq, Nat.reduceAdd, go_sem, hb, hm, ha, umulW]
          rfl
      · have k9 : k < 9 := by omega
        have hw : IntKind.wrap .u64 (((128 ^ k : Nat) : Int) * 128) = ((128 ^ (k + 1) : Nat) : Int) := by
          have hp8 : 128 ^ k ≤ 2 ^ 56 := by rw [e]; exact Nat.pow_le_pow_right (by omega) (by omega)
          rw [Nat.pow_succ, wrap_u64 (by omega) (by omega)]; push_cast; rfl
        have hi := ih s (k + 1) (v + c.toNat % 128 * 128 ^ k) hd' (by omega) (by omega) hl (by
          have h2 : c.toNat % 128 * 128 ^ k ≤ 127 * 128 ^ k := Nat.mul_le_mul_right _ (by omega)
          rw [Nat.pow_succ]; omega)
        rw [← hr, if_neg h]
        by_cases h1 : 0 < k
        · have := h2 h1
          simp (disch := first | assumption | omega | (with_reducible rfl) | (simp only [go_sem]; done) | (simp only [go_sem]; omega) | fail) only [↓reduceIte, ↓jn_eq, Nat.reduceAdd, go_sem, hb, hm, ha, umulW, hw, hi]
        · simp (disch := first | assumption | omega | (with_reducible rfl) | (simp only [go_sem]; done) | (simp only [go_sem]; omega) | fail) only [↓reduceIte, ↓jn_eq, Nat.reduceAdd, go_sem, hb, hm, ha, umulW, hw, hi]
theorem refnum_am {s : List UInt8} (hl : s.length < 4611686018427387904) : Cl 65 [.str s] [] = some (.tup [.int .u64 ((numL 0 0 s).1 : Int), .int .i64 ((numL 0 0 s).2.1 : Int), .int .i64 ((numL 0 0 s).2.2 : Int)], []) := by
  rw [f65_eq]
  exact refnum_l0 s s 0 0 rfl (by omega) (by omega) hl (by decide)

/-! ### fields -/
def z32 : List UInt8 := List.replicate 32 0
/-- a field: kind, most, number, integer, text, hash -/
def vFld (k m : Int) (n : Nat) (i : Int) (s h : List UInt8) : V := .agg 67 [.int .i64 k, .int .i64 m, .int .u64 (n : Int), .int .i64 i, .str s, A32 h]
@[go_sem] theorem pl_vFld (k m : Int) (n : Nat) (i : Int) (s h : List UInt8) : (vFld k m n i s h).pl = true := by simp (disch := first | assumption | omega | (with_reducible rfl) | (simp only [go_sem]; done) | (simp only [go_sem]; omega) | fail) only [↓reduceIte, ↓jn_eq, Nat.reduceAdd, go_sem, vFld]
@[go_sem] theorem tyG_vFld (k m : Int) (n : Nat) (i : Int) (s h : List UInt8) : tyG 67 (vFld k m n i s h) = true := tyG_g ..
theorem zero32' : V.agg 32 (List.replicate 32 (V.int .u8 0)) = A32 z32 := rfl

section
variable {s : List UInt8} (hl : s.length < 4611686018427387904) {n k e : Nat}
include hl
/-- a field whose number is wrong -/
theorem fget_bad (kd m : Int) (hk : kd ≠ 3) (h : numL 0 0 s = (n, k, e)) (he : e ≠ 0) : Cl 40 [.str s, vFld kd m 0 0 [] z32] [] = some (.tup [vFld 0 0 0 0 [] z32, .int .i64 0, .int .i64 (e : Int)], []) := by
  have hn := refnum_am hl
  rw [h] at hn
  rw [f40_eq, zero32', vFld, vFld]
  simp (disch := first | assumption | omega | (with_reducible rfl) | (simp only [go_sem]; done) | (simp only [go_sem]; omega) | fail) only [↓reduceIte, ↓jn_eq, Nat.reduceAdd, go_sem, hn]
  rfl
theorem fget_0 (m : Int) (h : numL 0 0 s = (n, k, 0)) : Cl 40 [.str s, vFld 0 m 0 0 [] z32] [] = some (.tup [vFld 0 0 n 0 [] z32, .int .i64 (k : Int), .int .i64 0], []) := by
  have hn := refnum_am hl
  rw [h] at hn
  rw [f40_eq, zero32', vFld, vFld]
  simp (disch := first | assumption | omega | (with_reducible rfl) | (simp only [go_sem]; done) | (simp only [go_sem]; omega) | fail) only [↓reduceIte, ↓jn_eq, Nat.reduceAdd, go_sem, hn]
theorem fget_1 (h : numL 0 0 s = (n, k, 0)) : Cl 40 [.str s, vFld 1 0 0 0 [] z32] [] = some (.tup [vFld 1 0 0 (zz n) [] z32, .int .i64 (k : Int), .int .i64 0], []) := by
  have hn := refnum_am hl
  have hlt := numL_lt s 0 0 (by omega) (by decide)
  rw [h] at hn hlt
  simp only [] at hlt
  rw [f40_eq, zero32', vFld, vFld]
  by_cases h2 : n % 2 = 0
  · rw [zz, if_pos h2]
    simp (disch := first | assumption | omega | (with_reducible rfl) | (simp only [go_sem]; done) | (simp only [go_sem]; omega) | fail) only [↓reduceIte, ↓jn_eq, Nat.reduceAdd, go_sem, hn, h2]
    rfl
  · have h3 : n % 2 = 1 := by omega
    rw [zz, if_neg h2]
    simp (disch := first | assumption | omega | (with_reducible rfl) | (simp only [go_sem]; done) | (simp only [go_sem]; omega) | fail) only [↓reduceIte, ↓jn_eq, Nat.reduceAdd, go_sem, hn, h3]
    rfl
theorem fget_2m (m : Nat) (hm : m < 4611686018427387904) (h : numL 0 0 s = (n, k, 0)) (h4 : m < n) : Cl 40 [.str s, vFld 2 (m : Int) 0 0 [] z32] [] = some (.tup [vFld 0 0 0 0 [] z32, .int .i64 0, .int .i64 22], []) := by
  have hn := refnum_am hl
  rw [h] at hn
  rw [f40_eq, zero32', vFld, vFld]
  simp (disch := first | assumption | omega | (with_reducible rfl) | (simp only [go_sem]; done) | (simp only [go_sem]; omega) | fail) only [↓reduceIte, ↓jn_eq, Nat.reduceAdd, go_sem, hn]
  rfl
theorem fget_2s (m : Nat) (hm : m < 4611686018427387904) (h : numL 0 0 s = (n, k, 0)) (h4 : ¬ m < n) (h5 : s.length - k < n) (hk : k ≤ s.length) : Cl 40 [.str s, vFld 2 (m : Int) 0 0 [] z32] [] = some (.tup [vFld 0 0 0 0 [] z32, .int .i64 0, .int .i64 20], []) := by
  have hn := refnum_am hl
  rw [h] at hn
  rw [f40_eq, zero32', vFld, vFld]
  simp (disch := first | assumption | omega | (with_reducible rfl) | (simp only [go_sem]; done) | (simp only [go_sem]; omega) | fail) only [↓reduceIte, ↓jn_eq, Nat.reduceAdd, go_sem, hn]
  rfl
theorem fget_2 (m : Nat) (hm : m < 4611686018427387904) (h : numL 0 0 s = (n, k, 0)) (h4 : ¬ m < n) (h5 : ¬ s.length - k < n) (hk : k ≤ s.length) : Cl 40 [.str s, vFld 2 (m : Int) 0 0 [] z32] [] = some (.tup [vFld 2 0 0 0 ((s.drop k).take n) z32, .int .i64 ((k + n : Nat) : Int), .int .i64 0], []) := by
  have hn := refnum_am hl
  rw [h] at hn
  rw [f40_eq, zero32', vFld, vFld]
  have e : (s.take (k + n)).drop k = (s.drop k).take n := by rw [List.drop_take]; congr 1; omega
  simp (disch := first | assumption | omega | (with_reducible rfl) | (simp only [go_sem]; done) | (simp only [go_sem]; omega) | fail) only [↓reduceIte, ↓jn_eq, Nat.reduceAdd, go_sem, hn, e]
  rfl
end

end Go.Proofs.YtmjocdbdbofcbaaDoor
end

section
set_option linter.unusedVariables false
set_option linter.unusedSimpArgs false
set_option linter.unusedSectionVars false
set_option maxRecDepth 100000
namespace Go.Proofs.YtmjocdbdbofcbaaDoor
open Go AM

/-! ### modillionref11.Right -/
theorem Great_am (x : Int) : Cl 66 [.int .i64 x] [] = some (.bool (!(decide (x ≤ 1125899906842624) && decide (-1125899906842624 ≤ x))), []) := by
  rw [f66_eq]
  by_cases h : 1125899906842624 < x
  · simp (disch := first | assumption | omega | (with_reducible rfl) | (simp only [go_sem]; done) | (simp only [go_sem]; omega) | fail) only [↓reduceIte, ↓jn_eq, Nat.reduceAdd, go_sem]
    rw [decide_eq_false (by omega)]; rfl
  · by_cases h2 : x < -1125899906842624
    · simp (disch := first | assumption | omega | (with_reducible rfl) | (simp only [go_sem]; done) | (simp only [go_sem]; omega) | fail) only [↓reduceIte, ↓jn_eq, Nat.reduceAdd, go_sem]
      rw [decide_eq_true h2, decide_eq_false (show ¬ -1125899906842624 ≤ x by omega), Bool.and_false]; rfl
    · simp (disch := first | assumption | omega | (with_reducible rfl) | (simp only [go_sem]; done) | (simp only [go_sem]; omega) | fail) only [↓reduceIte, ↓jn_eq, Nat.reduceAdd, go_sem]
      rw [decide_eq_false h2, decide_eq_true (show -1125899906842624 ≤ x by omega), decide_eq_true (show x ≤ 1125899906842624 by omega)]; rfl
def dupAt (l : List Msg) (m : Msg) : Nat → Nat → Bool
  | 0, _ => false
  | n + 1, k => dupM (l.getD k default) m || dupAt l m n (k + 1)
theorem right_l2 {l : List Msg} {i : Nat} (m : Msg) (hi : i < l.length) (hn : l.length ≤ 1000000) : ∀ (n k : Nat), k + n = i →
    f43_l2 (.lst 38 .sh (l.map vMsg)) (.int .i64 (i : Int)) (.ref 0 [] 38) (.int .i64 (k : Int)) 0 [vMsg m] =
      if dupAt l m n k = true then some (.bool false, []) else f43_l0 (.lst 38 .sh (l.map vMsg)) (.int .i64 ((i + 1 : Nat) : Int)) [] := by
  intro n
  induction n with
  | zero =>
    intro k hk
    have h : ¬ k < i := by omega
    rw [f43_l2_eq, dupAt, if_neg (by simp)]
    simp (disch := first | assumption | omega | (with_reducible rfl) | (simp only [go_sem]; done) | (simp only [go_sem]; omega) | fail) only [↓reduceIte, ↓jn_eq, Nat.reduceAdd, go_sem]
  | succ n ih =>
    intro k hk
    have h : k < l.length := by omega
    have hi' := ih (k + 1) (by omega)
    have hx : (l.map vMsg)[k]? = some (vMsg (l.getD k default)) := msg_at h
    rw [f43_l2_eq, dupAt]
    generalize l.getD k default = x at hx
    simp only [vMsg] at hi'
    by_cases h1 : x.fr = m.fr
    · by_cases h2 : x.to = m.to
      · rw [if_pos (by simp [dupM, h1, h2])]
        simp (disch := first | assumption | omega | (with_reducible rfl) | (simp only [go_sem]; done) | (simp only [go_sem]; omega) | fail) only [↓reduceIte, ↓jn_eq, Nat.reduceAdd, go_sem, hx, vMsg, h1, h2]
      · rw [show (dupM x m || dupAt l m n (k + 1)) = dupAt l m n (k + 1) by simp [dupM, h2], ← hi']
        simp (disch := first | assumption | omega | (with_reducible rfl) | (simp only [go_sem]; done) | (simp only [go_sem]; omega) | fail) only [↓reduceIte, ↓jn_eq, Nat.reduceAdd, go_sem, hx, vMsg, h1]
    · rw [show (dupM x m || dupAt l m n (k + 1)) = dupAt l m n (k + 1) by simp [dupM, h1], ← hi']
      simp (disch := first | assumption | omega | (with_reducible rfl) | (simp only [go_sem]; done) | (simp only [go_sem]; omega) | fail) only [↓reduceIte, ↓jn_eq, Nat.reduceAdd, go_sem, hx, vMsg]
def rightF (l : List Msg) : Nat → Nat → Bool
  | 0, _ => true
  | n + 1, i => mR (l.getD i default) && !dupAt l (l.getD i default) i 0 && rightF l n (i + 1)
theorem right_l0 {l : List Msg} (hn : l.length ≤ 1000000) : ∀ (n i : Nat), i + n = l.length →
    f43_l0 (.lst 38 .sh (l.map vMsg)) (.int .i64 (i : Int)) [] = some (.bool (rightF l n i && decide (l.length ≤ 512)), []) := by
  intro n
  induction n with
  | zero =>
    intro i hi
    have h : ¬ i < l.length := by omega
    rw [f43_l0_eq, rightF]
    simp (disch := first | assumption | omega | (with_reducible rfl) | (simp only [go_sem]; done) | (simp only [go_sem]; omega) | fail) only [↓reduceIte, ↓jn_eq, Nat.reduceAdd, go_sem]
    rw [show decide ((l.length : Int) ≤ 512) = decide (l.length ≤ 512) from decide_eq_decide.2 (by omega)]
  | succ n ih =>
    intro i hi
    have h : i < l.length := by omega
    have h2 := right_l2 (l.getD i default) h hn i 0 (by omega)
    have hi' := ih (i + 1) (by omega)
    rw [hi'] at h2
    generalize hm : l.getD i default = m at h2
    have hx : (l.map vMsg)[i]? = some (vMsg m) := by rw [msg_at h, hm]
    rw [f43_l0_eq, rightF, hm]
    by_cases g1 : m.fr < 0
    · simp (disch := first | assumption | omega | (with_reducible rfl) | (simp only [go_sem]; done) | (simp only [go_sem]; omega) | fail) only [↓reduceIte, ↓jn_eq, Nat.reduceAdd, go_sem, hx, vMsg]
      simp [mR, inR, g1]; omega
    by_cases g2 : 63 < m.fr
    · simp (disch := first | assumption | omega | (with_reducible rfl) | (simp only [go_sem]; done) | (simp only [go_sem]; omega) | fail) only [↓reduceIte, ↓jn_eq, Nat.reduceAdd, go_sem, hx, vMsg]
      simp [mR, inR]; omega
    by_cases g3 : m.to < 0
    · simp (disch := first | assumption | omega | (with_reducible rfl) | (simp only [go_sem]; done) | (simp only [go_sem]; omega) | fail) only [↓reduceIte, ↓jn_eq, Nat.reduceAdd, go_sem, hx, vMsg]
      simp [mR, inR]; omega
    by_cases g4 : 63 < m.to
    · simp (disch := first | assumption | omega | (with_reducible rfl) | (simp only [go_sem]; done) | (simp only [go_sem]; omega) | fail) only [↓reduceIte, ↓jn_eq, Nat.reduceAdd, go_sem, hx, vMsg]
      simp [mR, inR]; omega
    have e : mR m = (decide (m.val ≤ 1125899906842624) && decide (-1125899906842624 ≤ m.val)) := by
      simp [mR, inR, show 0 ≤ m.fr by omega, show m.fr < 64 by omega, show 0 ≤ m.to by omega, show m.to < 64 by omega]
    by_cases g5 : mR m = true
    · have g5' := g5
      rw [e] at g5'
      simp (disch := first | assumption | omega | (with_reducible rfl) | (simp only [go_sem]; done) | (simp only [go_sem]; omega) | fail) only [↓reduceIte, ↓jn_eq, Nat.reduceAdd, go_sem, hx, vMsg, Great_am, g5', Bool.not_true]
      simp only [vMsg] at h2
      rw [g5]
      refine h2.trans ?_
      cases dupAt l m i 0 <;> simp
    · have g5' : (decide (m.val ≤ 1125899906842624) && decide (-1125899906842624 ≤ m.val)) = false := by rw [← e]; simpa using g5
      have g6 : mR m = false := by simpa using g5
      simp (disch := first | assumption | omega | (with_reducible rfl) | (simp only [go_sem]; done) | (simp only [go_sem]; omega) | fail) only [↓reduceIte, ↓jn_eq, Nat.reduceAdd, go_sem, hx, vMsg, Great_am, g5', Bool.not_false]
      rw [g6]; rfl
theorem dupAt_iff (l : List Msg) (m : Msg) : ∀ n k, dupAt l m n k = false ↔ ∀ j, k ≤ j → j < k + n → dupM (l.getD j default) m = false
  | 0, k => by simp only [dupAt, true_iff]; intro j h1 h2; omega
  | n + 1, k => by
    simp only [dupAt, Bool.or_eq_false_iff, dupAt_iff l m n (k + 1)]
    constructor
    · rintro ⟨a, b⟩ j h1 h2
      by_cases e : j = k
      · subst e; exact a
      · exact b j (by omega) (by omega)
    · intro h
      exact ⟨h k (by omega) (by omega), fun j h1 h2 => h j (by omega) (by omega)⟩
theorem rightF_iff (l : List Msg) : ∀ n i, i + n = l.length → (rightF l n i = true ↔ ∀ j, i ≤ j → j < l.length → mR (l.getD j default) = true ∧ ∀ k, k < j → dupM (l.getD k default) (l.getD j default) = false)
  | 0, i, hi => by simp only [rightF, true_iff]; intro j h1 h2; omega
  | n + 1, i, hi => by
    simp only [rightF, Bool.and_eq_true, Bool.not_eq_true', dupAt_iff, rightF_iff l n (i + 1) (by omega)]
    constructor
    · rintro ⟨⟨a, b⟩, c⟩ j h1 h2
      by_cases e : j = i
      · subst e; exact ⟨a, fun k hk => b k (by omega) (by omega)⟩
      · exact c j (by omega) h2
    · intro h
      obtain ⟨a, b⟩ := h i (by omega) (by omega)
      exact ⟨⟨a, fun k _ hk => b k (by omega)⟩, fun j h1 h2 => h j (by omega) h2⟩
theorem right_chk (l : List Msg) : (rightF l l.length 0 && decide (l.length ≤ 512)) = chkM l := by
  rw [Bool.eq_iff_iff, chkM_iff, Bool.and_eq_true, decide_eq_true_eq, rightF_iff l l.length 0 (by omega)]
  constructor
  · rintro ⟨a, b⟩
    refine ⟨b, fun m hm => ?_, List.pairwise_iff_getElem.2 fun i j hi hj hij => ?_⟩
    · obtain ⟨j, hj, rfl⟩ := List.mem_iff_getElem.1 hm
      have := (a j (by omega) hj).1
      rwa [getD_lt hj] at this
    · have := (a j (by omega) hj).2 i hij
      rwa [getD_lt hj, getD_lt hi] at this
  · rintro ⟨b, c, d⟩
    refine ⟨fun j _ hj => ⟨?_, fun k hk => ?_⟩, b⟩
    · rw [getD_lt hj]; exact c _ (List.getElem_mem _)
    · rw [getD_lt hj, getD_lt (by omega)]
      exact List.pairwise_iff_getElem.1 d k j (by omega) hj hk
theorem Right_am {l : List Msg} (hn : l.length ≤ 1000000) : Cl 43 [.lst 38 .sh (l.map vMsg)] [] = some (.bool (chkM l), []) := by
  rw [f43_eq, ← right_chk]
  exact right_l0 hn l.length 0 (by omega)
end Go.Proofs.YtmjocdbdbofcbaaDoor
end

section
set_option linter.unusedVariables false
set_option linter.unusedSimpArgs false
set_option linter.unusedSectionVars false
set_option maxRecDepth 100000
namespace Go.Proofs.YtmjocdbdbofcbaaDoor
open Go AM

abbrev m0 : V := .agg 37 [.int .i64 0, .int .i64 0, .int .i64 0]
section
variable {s : List UInt8} (hl : s.length < 4611686018427387904) {n k e : Nat} {i : Nat} {g : Fl} {fs : List V} (hf : plL fs = true) (hy : fs.all (tyG 67) = true) (hfl : fs.length ≤ 10)
include hl hf hy hfl
theorem row_s0 (hi : i < 2) (h : numL 0 0 s = (n, k, 0)) (hk : k ≤ s.length) : f41_l0 (.str s) (.ref 0 [] 38) (.lst 68 .own fs) (.int .i64 (i : Int)) [m0] =
    f41_l0 (.str (s.drop k)) (.ref 0 [] 38) (.lst 68 .own (fs ++ [vFld 0 0 n 0 [] z32])) (.int .i64 ((i + 1 : Nat) : Int)) [m0] := by
  have hg := fget_0 hl 0 h
  have hq : i / 2 = 0 := by omega
  simp only [vFld, c0] at hg
  rw [f41_l0_eq, zero32', vFld]
  simp (disch := first | assumption | omega | (with_reducible rfl) | (simp only [go_sem]; done) | (simp only [go_sem]; omega) | fail) only [↓reduceIte, ↓jn_eq, Nat.reduceAdd, go_sem, hq, hg, c0]
theorem row_b0 (hi : i < 2) (h : numL 0 0 s = (n, k, e)) (he : e ≠ 0) : f41_l0 (.str s) (.ref 0 [] 38) (.lst 68 .own fs) (.int .i64 (i : Int)) [m0] =
    some (.tup [m0, .int .i64 (e : Int)], []) := by
  have hg := fget_bad hl 0 0 (by omega) h he
  have hq : i / 2 = 0 := by omega
  simp only [vFld, c0] at hg
  rw [f41_l0_eq, zero32']
  simp (disch := first | assumption | omega | (with_reducible rfl) | (simp only [go_sem]; done) | (simp only [go_sem]; omega) | fail) only [↓reduceIte, ↓jn_eq, Nat.reduceAdd, go_sem, hq, hg, c0]
theorem row_s1 (h : numL 0 0 s = (n, k, 0)) (hk : k ≤ s.length) : f41_l0 (.str s) (.ref 0 [] 38) (.lst 68 .own fs) (.int .i64 ((2 : Nat) : Int)) [m0] =
    f41_l0 (.str (s.drop k)) (.ref 0 [] 38) (.lst 68 .own (fs ++ [vFld 1 0 0 (zz n) [] z32])) (.int .i64 ((3 : Nat) : Int)) [m0] := by
  have hg := fget_1 hl h
  have hq : 2 / 2 = 1 := by omega
  simp only [vFld, c0] at hg
  rw [f41_l0_eq, zero32', vFld]
  simp (disch := first | assumption | omega | (with_reducible rfl) | (simp only [go_sem]; done) | (simp only [go_sem]; omega) | fail) only [↓reduceIte, ↓jn_eq, Nat.reduceAdd, go_sem, hq, hg, c0, c1]
theorem row_b1 (h : numL 0 0 s = (n, k, e)) (he : e ≠ 0) : f41_l0 (.str s) (.ref 0 [] 38) (.lst 68 .own fs) (.int .i64 ((2 : Nat) : Int)) [m0] =
    some (.tup [m0, .int .i64 (e : Int)], []) := by
  have hg := fget_bad hl 1 0 (by omega) h he
  have hq : 2 / 2 = 1 := by omega
  simp only [vFld, c0] at hg
  rw [f41_l0_eq, zero32']
  simp (disch := first | assumption | omega | (with_reducible rfl) | (simp only [go_sem]; done) | (simp only [go_sem]; omega) | fail) only [↓reduceIte, ↓jn_eq, Nat.reduceAdd, go_sem, hq, hg, c0, c1]
end
theorem row_end (s : List UInt8) (a b : Nat) (v : Int) (ha : a < 18446744073709551616) (hb : b < 18446744073709551616) :
    f41_l0 (.str s) (.ref 0 [] 38) (.lst 68 .own [vFld 0 0 a 0 [] z32, vFld 0 0 b 0 [] z32, vFld 1 0 0 v [] z32]) (.int .i64 ((3 : Nat) : Int)) [m0] =
      some (if s = [] then .tup [vMsg ⟨cut64 a, cut64 b, v⟩, .int .i64 0] else .tup [m0, .int .i64 22], []) := by
  rw [f41_l0_eq, vFld, vFld, vFld]
  by_cases hs : s = []
  · rw [if_pos hs]
    by_cases h1 : a < 64 <;> by_cases h2 : b < 64
    · simp (disch := first | assumption | omega | (with_reducible rfl) | (simp only [go_sem]; done) | (simp only [go_sem]; omega) | fail) only [↓reduceIte, ↓jn_eq, Nat.reduceAdd, go_sem, hs]
      simp only [vMsg, cut64, Nat.min_eq_left (Nat.le_of_lt h1), Nat.min_eq_left (Nat.le_of_lt h2)]
    · simp (disch := first | assumption | omega | (with_reducible rfl) | (simp only [go_sem]; done) | (simp only [go_sem]; omega) | fail) only [↓reduceIte, ↓jn_eq, Nat.reduceAdd, go_sem, hs]
      simp only [vMsg, cut64, Nat.min_eq_left (Nat.le_of_lt h1), Nat.min_eq_right (Nat.le_of_not_lt h2)]; rfl
    · simp (disch := first | assumption | omega | (with_reducible rfl) | (simp only [go_sem]; done) | (simp only [go_sem]; omega) | fail) only [↓reduceIte, ↓jn_eq, Nat.reduceAdd, go_sem, hs]
      simp only [vMsg, cut64, Nat.min_eq_right (Nat.le_of_not_lt h1), Nat.min_eq_left (Nat.le_of_lt h2)]; rfl
    · simp (disch := first | assumption | omega | (with_reducible rfl) | (simp only [go_sem]; done) | (simp only [go_sem]; omega) | fail) only [↓reduceIte, ↓jn_eq, Nat.reduceAdd, go_sem, hs]
      simp only [vMsg, cut64, Nat.min_eq_right (Nat.le_of_not_lt h1), Nat.min_eq_right (Nat.le_of_not_lt h2)]; rfl
  · rw [if_neg hs]
    simp (disch := first | assumption | omega | (with_reducible rfl) | (simp only [go_sem]; done) | (simp only [go_sem]; omega) | fail) only [↓reduceIte, ↓jn_eq, Nat.reduceAdd, go_sem]
/-- the message of a row, or what is wrong -/
def rowR (s : List UInt8) : Msg × Nat := if (msgIn s).2 = 0 then ((msgIn s).1, 0) else (⟨0, 0, 0⟩, (msgIn s).2)
theorem numIn_z (s : List UInt8) {n k e : Nat} (h : numL 0 0 s = (n, k, e)) : numIn s 0 = (n, if e = 0 then s.drop k else s, e) := by
  simp only [numIn, ne_eq, not_true_eq_false, if_false, h]
theorem numIn_s (s : List UInt8) {e : Nat} (h : e ≠ 0) : numIn s e = (0, s, e) := by simp only [numIn, ne_eq, h, not_false_eq_true, if_true]
theorem refrow_am {s : List UInt8} (hl : s.length < 4611686018427387904) : Cl 41 [.str s] [] = some (.tup [vMsg (rowR s).1, .int .i64 ((rowR s).2 : Int)], []) := by
  have ini : Cl 41 [.str s] [] = f41_l0 (.str s) (.ref 0 [] 38) (.lst 68 .own []) (.int .i64 ((0 : Nat) : Int)) [m0] := by
    rw [f41_eq]
    simp (disch := first | assumption | omega | (with_reducible rfl) | (simp only [go_sem]; done) | (simp only [go_sem]; omega) | fail) only [↓reduceIte, ↓jn_eq, Nat.reduceAdd, go_sem, c0]
  rw [ini]
  obtain ⟨n, k, e, h1⟩ : ∃ n k e, numL 0 0 s = (n, k, e) := ⟨_, _, _, rfl⟩
  have k1 := numL_le s 0 0; rw [h1] at k1; simp only [] at k1
  have b1 := numL_lt s 0 0 (by omega) (by decide); rw [h1] at b1
  by_cases e1 : e ≠ 0
  · rw [row_b0 hl rfl rfl (by simp) (by omega) h1 e1]
    have hm : (msgIn s).2 = e := by
      simp only [msgIn, numIn_z s h1, numIn_s _ e1, endIn]; rw [if_neg (fun h => e1 h.1)]
    rw [rowR, if_neg (by rw [hm]; exact e1), hm]; rfl
  obtain rfl : e = 0 := by omega
  rw [row_s0 hl rfl rfl (by simp) (by omega) h1 (by omega)]
  obtain ⟨n2, k2, e2, h2⟩ : ∃ a b c, numL 0 0 (s.drop k) = (a, b, c) := ⟨_, _, _, rfl⟩
  have k3 := numL_le (s.drop k) 0 0; rw [h2] at k3; simp only [] at k3
  have b2 := numL_lt (s.drop k) 0 0 (by omega) (by decide); rw [h2] at b2
  have l2 : (s.drop k).length < 4611686018427387904 := by simp; omega
  by_cases e3 : e2 ≠ 0
  · rw [row_b0 l2 rfl rfl (by simp) (by omega) h2 e3]
    have hm : (msgIn s).2 = e2 := by
      simp only [msgIn, numIn_z s h1, if_true, numIn_z _ h2, numIn_s _ e3, endIn]; rw [if_neg (fun h => e3 h.1)]
    rw [rowR, if_neg (by rw [hm]; exact e3), hm]; rfl
  obtain rfl : e2 = 0 := by omega
  rw [row_s0 l2 rfl rfl (by simp) (by omega) h2 (by omega)]
  obtain ⟨n4, k4, e4, h4⟩ : ∃ a b c, numL 0 0 ((s.drop k).drop k2) = (a, b, c) := ⟨_, _, _, rfl⟩
  have k5 := numL_le ((s.drop k).drop k2) 0 0; rw [h4] at k5; simp only [] at k5
  have l4 : ((s.drop k).drop k2).length < 4611686018427387904 := by simp; omega
  by_cases e5 : e4 ≠ 0
  · rw [row_b1 l4 rfl rfl (by simp) h4 e5]
    have hm : (msgIn s).2 = e4 := by
      simp only [msgIn, numIn_z s h1, if_true, numIn_z _ h2, numIn_z _ h4, endIn]; rw [if_neg (fun h => e5 h.1)]
    rw [rowR, if_neg (by rw [hm]; exact e5), hm]; rfl
  obtain rfl : e4 = 0 := by omega
  rw [row_s1 l4 rfl rfl (by simp) h4 (by omega)]
  refine (row_end _ n n2 (zz n4) b1 b2).trans ?_
  have hm : msgIn s = (⟨cut64 n, cut64 n2, zz n4⟩, if ((s.drop k).drop k2).drop k4 = [] then 0 else 22) := by
    simp only [msgIn, numIn_z s h1, if_true, numIn_z _ h2, numIn_z _ h4, endIn, true_and]
    refine Prod.ext rfl ?_
    simp only [ne_eq, _root_.ite_not]
  rw [rowR, hm]
  by_cases hz : ((s.drop k).drop k2).drop k4 = []
  · rw [if_pos hz]; simp only [hz, if_true]; rfl
  · rw [if_neg hz]; simp only [hz, if_false]; rfl
end Go.Proofs.YtmjocdbdbofcbaaDoor
end

section
set_option linter.unusedVariables false
set_option linter.unusedSimpArgs false
set_option linter.unusedSectionVars false
set_option maxRecDepth 100000
namespace Go.Proofs.YtmjocdbdbofcbaaDoor
open Go AM

def strictF (l : List Msg) : Nat → Nat → Bool
  | 0, _ => true
  | n + 1, i => ltM (l.getD (i - 1) default) (l.getD i default) && strictF l n (i + 1)
def finR (acc : List Msg) : List Msg × Nat := if strictF acc (acc.length - 1) 1 = true ∧ chkM acc = true then (acc, 0) else ([], 110)
def getRL : Nat → List Msg → List UInt8 → List Msg × Nat
  | 0, acc, s => if s ≠ [] then ([], 22) else finR acc
  | n + 1, acc, s => if (textL 40 s).2.1 ≠ 0 then ([], (textL 40 s).2.1) else
      if (rowR (textL 40 s).2.2).2 ≠ 0 then ([], (rowR (textL 40 s).2.2).2) else getRL n (acc ++ [(rowR (textL 40 s).2.2).1]) (s.drop (textL 40 s).1)
def getR (s : List UInt8) : List Msg × Nat :=
  if (numL 0 0 s).2.2 ≠ 0 then ([], (numL 0 0 s).2.2) else if (numL 0 0 s).1 > 512 then ([], 110) else getRL (numL 0 0 s).1 [] (s.drop (numL 0 0 s).2.1)
def vR (r : List Msg × Nat) : V := .tup [.lst 38 .sh (r.1.map vMsg), .int .i64 (r.2 : Int)]

section
variable {acc : List Msg} (ha : acc.length ≤ 1000) (f : V)
include ha
theorem rget_l2 : ∀ (n i : Nat), i + n = acc.length → 0 < i →
    f15_l2 (.lst 38 .own (acc.map vMsg)) (.int .i64 (i : Int)) [f] = some (vR (if strictF acc n i = true ∧ chkM acc = true then (acc, 0) else ([], 110)), []) := by
  intro n
  induction n with
  | zero =>
    intro i hi h0
    have h : ¬ i < acc.length := by omega
    rw [strictF]
    by_cases hc : chkM acc = true
    · rw [if_pos ⟨rfl, hc⟩, vR, f15_l2_eq]
      simp (disch := first | assumption | omega | (with_reducible rfl) | (simp only [go_sem]; done) | (simp only [go_sem]; omega) | fail) only [↓reduceIte, ↓jn_eq, Nat.reduceAdd, go_sem, Right_am, hc]
      rfl
    · rw [if_neg (fun h => hc h.2), vR, f15_l2_eq]
      simp (disch := first | assumption | omega | (with_reducible rfl) | (simp only [go_sem]; done) | (simp only [go_sem]; omega) | fail) only [↓reduceIte, ↓jn_eq, Nat.reduceAdd, go_sem, Right_am, hc]
      rfl
  | succ n ih =>
    intro i hi h0
    have h : i < acc.length := by omega
    have h1 : i - 1 < acc.length := by omega
    have hi' := ih (i + 1) (by omega) (by omega)
    rw [strictF]
    by_cases hc : ltM (acc.getD (i - 1) default) (acc.getD i default) = true
    · rw [hc, Bool.true_and, ← hi', f15_l2_eq]
      simp (disch := first | assumption | omega | (with_reducible rfl) | (simp only [go_sem]; done) | (simp only [go_sem]; omega) | fail) only [↓reduceIte, ↓jn_eq, Nat.reduceAdd, go_sem, msg_at h, msg_at h1, Less_am, hc]
    · rw [if_neg (fun h => hc (Bool.and_eq_true_iff.1 h.1).1), vR, f15_l2_eq]
      simp (disch := first | assumption | omega | (with_reducible rfl) | (simp only [go_sem]; done) | (simp only [go_sem]; omega) | fail) only [↓reduceIte, ↓jn_eq, Nat.reduceAdd, go_sem, msg_at h, msg_at h1, Less_am, hc]
      rfl
end
theorem rget_fin {acc : List Msg} (ha : acc.length ≤ 1000) (f : V) : f15_l2 (.lst 38 .own (acc.map vMsg)) (.int .i64 1) [f] = some (vR (finR acc), []) := by
  rw [finR]
  by_cases h : acc.length = 0
  · have e : acc = [] := List.eq_nil_of_length_eq_zero h
    subst e
    have hc : chkM [] = true := by decide +kernel
    have := Right_am (l := []) (by simp)
    rw [List.map_nil] at this
    rw [if_pos ⟨rfl, hc⟩, vR, f15_l2_eq]
    simp (disch := first | assumption | omega | (with_reducible rfl) | (simp only [go_sem]; done) | (simp only [go_sem]; omega) | fail) only [↓reduceIte, ↓jn_eq, Nat.reduceAdd, go_sem, List.map_nil, this, hc]
    rfl
  · exact rget_l2 ha f (acc.length - 1) 1 (by omega) (by omega)
theorem textL_z (s : List UInt8) : (textL 40 s).1 ≤ s.length := textL_le 40 s
theorem fget_t {s : List UInt8} (hl : s.length < 4611686018427387904) : Cl 40 [.str s, vFld 2 40 0 0 [] z32] [] =
    some (.tup [vFld (if (textL 40 s).2.1 = 0 then 2 else 0) 0 0 0 (textL 40 s).2.2 z32, .int .i64 ((textL 40 s).1 : Int), .int .i64 ((textL 40 s).2.1 : Int)], []) := by
  obtain ⟨n, k, e, h⟩ : ∃ n k e, numL 0 0 s = (n, k, e) := ⟨_, _, _, rfl⟩
  have hk := numL_le s 0 0
  rw [h] at hk; simp only [] at hk
  by_cases he : e = 0
  · subst he
    by_cases h4 : 40 < n
    · rw [show (40 : Int) = ((40 : Nat) : Int) from rfl, fget_2m hl 40 (by omega) h h4]
      simp only [textL, h, ne_eq, not_true_eq_false, if_false, if_pos h4]; rfl
    by_cases h5 : s.length - k < n
    · rw [show (40 : Int) = ((40 : Nat) : Int) from rfl, fget_2s hl 40 (by omega) h h4 h5 (by omega)]
      simp only [textL, h, ne_eq, not_true_eq_false, if_false, if_neg h4, if_pos h5]; rfl
    · rw [show (40 : Int) = ((40 : Nat) : Int) from rfl, fget_2 hl 40 (by omega) h h4 h5 (by omega)]
      simp only [textL, h, ne_eq, not_true_eq_false, if_false, if_neg h4, if_neg h5]; rfl
  · rw [fget_bad hl 2 40 (by omega) h he]
    simp only [textL, h, ne_eq, he, not_false_eq_true, if_true]; rfl

theorem rget_l0 (cnt : Nat) (hc : cnt ≤ 512) : ∀ (n i : Nat) (acc : List Msg) (s : List UInt8), i + n = cnt → acc.length = i → s.length < 1000000000 →
    f15_l0 (.ref 0 [] 68) (.lst 38 .own (acc.map vMsg)) (.str s) (.int .u64 (i : Int)) [vFld 0 0 cnt 0 [] z32] = some (vR (getRL n acc s), []) := by
  intro n
  induction n with
  | zero =>
    intro i acc s hi ha hl
    have hfin := rget_fin (acc := acc) (by omega) (vFld 0 0 cnt 0 [] z32)
    rw [getRL]
    by_cases hs : s = []
    · rw [if_neg (by simp [hs]), ← hfin, f15_l0_eq, zero32', vFld]
      simp (disch := first | assumption | omega | (with_reducible rfl) | (simp only [go_sem]; done) | (simp only [go_sem]; omega) | fail) only [↓reduceIte, ↓jn_eq, Nat.reduceAdd, go_sem, hs]
    · rw [if_pos hs, vR, f15_l0_eq, zero32', vFld]
      simp (disch := first | assumption | omega | (with_reducible rfl) | (simp only [go_sem]; done) | (simp only [go_sem]; omega) | fail) only [↓reduceIte, ↓jn_eq, Nat.reduceAdd, go_sem]
      rfl
  | succ n ih =>
    intro i acc s hi ha hl
    have hg := fget_t (s := s) (by omega)
    have ht := textL_z s
    have ht1 := textIn_len1 40 s
    have htx : (textIn 40 s 0).1 = (textL 40 s).2.2 := by simp [textIn]
    rw [htx] at ht1
    have hr := refrow_am (s := (textL 40 s).2.2) (by omega)
    rw [getRL]
    generalize textL 40 s = t at *
    by_cases he : t.2.1 ≠ 0
    · rw [if_pos he, vR, f15_l0_eq, zero32', vFld]
      simp only [vFld, if_neg he, c0] at hg
      simp (disch := first | assumption | omega | (with_reducible rfl) | (simp only [go_sem]; done) | (simp only [go_sem]; omega) | fail) only [↓reduceIte, ↓jn_eq, Nat.reduceAdd, go_sem, hg]
      rfl
    · have he0 : t.2.1 = 0 := by omega
      rw [if_neg he]
      simp only [vFld, he0, if_true, c0] at hg
      generalize hrw : rowR t.2.2 = r at *
      by_cases hb : r.2 ≠ 0
      · rw [if_pos hb, vR, f15_l0_eq, zero32', vFld]
        simp (disch := first | assumption | omega | (with_reducible rfl) | (simp only [go_sem]; done) | (simp only [go_sem]; omega) | fail) only [↓reduceIte, ↓jn_eq, Nat.reduceAdd, go_sem, hg, hr]
        rfl
      · have hb0 : r.2 = 0 := by omega
        rw [if_neg hb]
        have hi' := ih (i + 1) (acc ++ [r.1]) (s.drop t.1) (by omega) (by simp [ha]) (by simp; omega)
        rw [hb0] at hr
        rw [← hi', f15_l0_eq, zero32', vFld]
        simp (disch := first | assumption | omega | (with_reducible rfl) | (simp only [go_sem]; done) | (simp only [go_sem]; omega) | fail) only [↓reduceIte, ↓jn_eq, Nat.reduceAdd, go_sem, hg, hr, c0, List.map_append, List.map_cons, List.map_nil]
theorem refGet_am {s : List UInt8} (hl : s.length < 1000000000) : Cl 15 [.str s] [] = some (vR (getR s), []) := by
  obtain ⟨n, k, e, h⟩ : ∃ n k e, numL 0 0 s = (n, k, e) := ⟨_, _, _, rfl⟩
  have hk := numL_le s 0 0
  rw [h] at hk; simp only [] at hk
  rw [getR, h]
  simp only []
  by_cases he : e ≠ 0
  · have hg := fget_bad (s := s) (by omega) 0 0 (by omega) h he
    simp only [vFld, c0] at hg
    rw [if_pos he, vR, f15_eq, zero32']
    simp (disch := first | assumption | omega | (with_reducible rfl) | (simp only [go_sem]; done) | (simp only [go_sem]; omega) | fail) only [↓reduceIte, ↓jn_eq, Nat.reduceAdd, go_sem, hg]
    rfl
  · obtain rfl : e = 0 := by omega
    have hg := fget_0 (s := s) (by omega) 0 h
    simp only [vFld, c0] at hg
    rw [if_neg he]
    by_cases h5 : n > 512
    · rw [if_pos h5, vR, f15_eq, zero32']
      simp (disch := first | assumption | omega | (with_reducible rfl) | (simp only [go_sem]; done) | (simp only [go_sem]; omega) | fail) only [↓reduceIte, ↓jn_eq, Nat.reduceAdd, go_sem, hg]
      rfl
    · rw [if_neg h5]
      have hi' := rget_l0 n (by omega) n 0 [] (s.drop k) (by omega) rfl (by simp; omega)
      simp only [vFld, c0, List.map_nil] at hi'
      rw [← hi', f15_eq, zero32']
      simp (disch := first | assumption | omega | (with_reducible rfl) | (simp only [go_sem]; done) | (simp only [go_sem]; omega) | fail) only [↓reduceIte, ↓jn_eq, Nat.reduceAdd, go_sem, hg]
end Go.Proofs.YtmjocdbdbofcbaaDoor
end

section
set_option linter.unusedVariables false
set_option linter.unusedSimpArgs false
set_option linter.unusedSectionVars false
set_option maxRecDepth 100000
namespace Go.Proofs.YtmjocdbdbofcbaaDoor
open Go AM

/-! ### what is read has just one text -/
theorem numL_dec : ∀ (cs : List UInt8) (k v n l : Nat), k ≤ 9 → numL k v cs = (n, l, 0) → ∃ x, n = v + x * 128 ^ k ∧ (0 < k → 0 < x) ∧ x < 128 ^ (10 - k) ∧ cs = numBf (10 - k) x ++ cs.drop (l - k) ∧ k < l := by
  intro cs
  induction cs with
  | nil => intro k v n l _ h; simp [numL] at h
  | cons c cs ih =>
    intro k v n l h9 h
    have hc : c.toNat < 256 := c.toNat_lt
    rw [numL] at h
    split at h
    · simp at h
    rename_i hb
    have ek : 10 - k = (9 - k) + 1 := by omega
    split at h
    · rename_i h1
      simp only [Prod.mk.injEq, and_true] at h
      obtain ⟨rfl, rfl⟩ := h
      refine ⟨c.toNat, by rw [Nat.mod_eq_of_lt h1], fun h0 => ?_, ?_, ?_, by omega⟩
      · rcases Nat.eq_zero_or_pos c.toNat with h | h
        · exact absurd (Or.inr ⟨h0, h⟩) hb
        · exact h
      · rw [ek, Nat.pow_succ]
        have : 1 ≤ 128 ^ (9 - k) := Nat.one_le_pow _ _ (by omega)
        omega
      · rw [ek, numBf, if_pos h1]
        have e : k + 1 - k = 1 := by omega
        rw [e]; simp
    · rename_i h1
      have k8 : k ≤ 8 := by
        rcases Nat.lt_or_ge k 9 with h | h
        · omega
        · exact absurd (Or.inl ⟨by omega, by omega⟩) hb
      obtain ⟨x, e1, e2, e3, e4, e5⟩ := ih (k + 1) _ n l (by omega) h
      have ex : 10 - (k + 1) = 9 - k := by omega
      rw [ex] at e3 e4
      have x0 := e2 (by omega)
      refine ⟨c.toNat % 128 + x * 128, ?_, fun _ => by omega, ?_, ?_, by omega⟩
      · rw [e1, Nat.pow_succ, Nat.add_mul, Nat.mul_assoc, Nat.mul_comm (128 ^ k) 128, Nat.add_assoc]
      · rw [ek, Nat.pow_succ]
        have : c.toNat % 128 < 128 := Nat.mod_lt _ (by omega)
        have : x + 1 ≤ 128 ^ (9 - k) := e3
        omega
      · have a1 : ¬ c.toNat % 128 + x * 128 < 128 := by omega
        have a2 : (c.toNat % 128 + x * 128) % 128 = c.toNat % 128 := by omega
        have a3 : (c.toNat % 128 + x * 128) / 128 = x := by omega
        have a4 : UInt8.ofNat (c.toNat % 128 + 128) = c := by
          have : c.toNat % 128 + 128 = c.toNat := by omega
          rw [this]; exact UInt8.ofNat_toNat
        rw [ek, numBf, if_neg a1, a2, a3, a4]
        have e : l - k = (l - (k + 1)) + 1 := by omega
        rw [e, List.drop_succ_cons, List.cons_append, ← e4]
theorem numL_dec0 {s : List UInt8} {n l : Nat} (h : numL 0 0 s = (n, l, 0)) : s = numB n ++ s.drop l := by
  obtain ⟨x, e1, _, _, e4, _⟩ := numL_dec s 0 0 n l (by omega) h
  have : n = x := by omega
  subst this
  exact e4
theorem numIn_dec {s r : List UInt8} {n : Nat} (h : numIn s 0 = (n, r, 0)) : s = numB n ++ r := by
  obtain ⟨a, b, c, h1⟩ : ∃ a b c, numL 0 0 s = (a, b, c) := ⟨_, _, _, rfl⟩
  rw [numIn_z s h1] at h
  simp only [Prod.mk.injEq] at h
  obtain ⟨rfl, h2, rfl⟩ := h
  rw [if_pos rfl] at h2
  subst h2
  exact numL_dec0 h1
theorem textL_dec {s t : List UInt8} {l : Nat} (h : textL 40 s = (l, 0, t)) : s = txtB t ++ s.drop l ∧ t.length ≤ 40 := by
  obtain ⟨a, b, c, h1⟩ : ∃ a b c, numL 0 0 s = (a, b, c) := ⟨_, _, _, rfl⟩
  have hb := numL_le s 0 0
  rw [h1] at hb; simp only [] at hb
  simp only [textL, h1] at h
  split at h
  · rename_i hc; simp only [Prod.mk.injEq] at h; exact absurd h.2.1 hc
  rename_i hc
  split at h
  · simp at h
  split at h
  · simp at h
  rename_i h4 h5
  simp only [Prod.mk.injEq, true_and] at h
  obtain ⟨rfl, rfl⟩ := h
  have hc0 : c = 0 := by simpa using hc
  subst hc0
  have e := numL_dec0 h1
  have hl : ((s.drop b).take a).length = a := by simp; omega
  refine ⟨?_, by omega⟩
  rw [txtB, hl, List.append_assoc]
  have : (s.drop b).take a ++ s.drop (b + a) = s.drop b := by rw [← List.drop_drop, List.take_append_drop]
  rw [this]
  exact e
theorem msgIn_dec {s : List UInt8} (h : (msgIn s).2 = 0) (hm : mR (msgIn s).1 = true) : s = rowB (msgIn s).1 := by
  obtain ⟨n, r, e, h1⟩ : ∃ n r e, numIn s 0 = (n, r, e) := ⟨_, _, _, rfl⟩
  simp only [msgIn, h1] at h hm ⊢
  by_cases e1 : e ≠ 0
  · simp only [numIn_s _ e1, endIn, e1, false_and, if_false] at h
  obtain rfl : e = 0 := by omega
  obtain ⟨n2, r2, e2, h2⟩ : ∃ n r' e, numIn r 0 = (n, r', e) := ⟨_, _, _, rfl⟩
  simp only [h2] at h hm ⊢
  by_cases e3 : e2 ≠ 0
  · simp only [numIn_s _ e3, endIn, e3, false_and, if_false] at h
  obtain rfl : e2 = 0 := by omega
  obtain ⟨n3, r3, e3, h3⟩ : ∃ n r' e, numIn r2 0 = (n, r', e) := ⟨_, _, _, rfl⟩
  have l3 := numIn_lt r2 0
  rw [h3] at l3; simp only [] at l3
  simp only [h3, endIn] at h hm ⊢
  have he : e3 = 0 ∧ r3 = [] := by
    split at h
    · omega
    · rename_i hx
      refine ⟨h, ?_⟩
      rcases Classical.em (r3 = []) with h' | h'
      · exact h'
      · exact absurd ⟨h, h'⟩ hx
  obtain ⟨rfl, rfl⟩ := he
  simp only [mR, inR, Bool.and_eq_true, decide_eq_true_eq] at hm
  obtain ⟨⟨⟨⟨g1, g2⟩, g3, g4⟩, g5⟩, g6⟩ := hm
  simp only [cut64] at g1 g2 g3 g4
  have d1 := numIn_dec h1
  have d2 := numIn_dec h2
  have d3 := numIn_dec h3
  have u : unz (zz n3) = n3 := by
    simp only [unz, zz]; split <;> split <;> omega
  have m1 : (cut64 n).toNat = n := by simp only [cut64]; omega
  have m2 : (cut64 n2).toNat = n2 := by simp only [cut64]; omega
  rw [rowB, if_neg (by simp only [cut64]; omega), u]
  simp only [m1, m2]
  rw [d1, d2, d3, List.append_nil, List.append_assoc]

/-! ### the two readers -/
theorem strict_sorted {l : List Msg} : strictF l (l.length - 1) 1 = true ↔ ∀ i, i + 1 < l.length → ltM (l.getD i default) (l.getD (i + 1) default) = true := by
  have gen : ∀ n i, 0 < i → (strictF l n i = true ↔ ∀ j, i ≤ j → j < i + n → ltM (l.getD (j - 1) default) (l.getD j default) = true) := by
    intro n
    induction n with
    | zero => intro i _; simp only [strictF, true_iff]; intro j h1 h2; omega
    | succ n ih =>
      intro i h0
      simp only [strictF, Bool.and_eq_true, ih (i + 1) (by omega)]
      constructor
      · rintro ⟨a, b⟩ j h1 h2
        by_cases e : j = i
        · subst e; exact a
        · exact b j (by omega) (by omega)
      · intro h; exact ⟨h i (by omega) (by omega), fun j h1 h2 => h j (by omega) (by omega)⟩
  rw [gen _ 1 (by omega)]
  constructor
  · intro h i hi
    have := h (i + 1) (by omega) (by omega)
    simpa using this
  · intro h j h1 h2
    have := h (j - 1) (by omega)
    have e : j - 1 + 1 = j := by omega
    rwa [e] at this
theorem strict_sort {l : List Msg} (h : strictF l (l.length - 1) 1 = true) : sortM l = l := by
  have hs := strict_sorted.1 h
  refine (perm_unique (sortM_sorted l) ?_ (List.mergeSort_perm l _))
  have far : ∀ n i (hi : i + 1 + n < l.length), ltM l[i] l[i + 1 + n] = true := by
    intro n
    induction n with
    | zero => intro i hi; have := hs i hi; rwa [getD_lt hi, getD_lt (by omega)] at this
    | succ n ih =>
      intro i hi
      have a := ih i (by omega)
      have b := hs (i + 1 + n) (by omega)
      rw [getD_lt (by omega), getD_lt (by omega)] at b
      exact ltM_swo.trans _ _ _ a b
  refine List.pairwise_iff_getElem.2 fun i j hi hj hij => ?_
  have := far (j - i - 1) i (by omega)
  have e : i + 1 + (j - i - 1) = j := by omega
  simp only [e] at this
  cases hc : ltM l[j] l[i] with
  | false => rfl
  | true => have := ltM_swo.trans _ _ _ this hc; rw [ltM_swo.irrefl] at this; cases this
theorem sort_strict {l : List Msg} (h : sortM l = l) (hd : noDup l) : strictF l (l.length - 1) 1 = true := by
  refine strict_sorted.2 fun i hi => ?_
  have hs := sortM_sorted l
  rw [h] at hs
  have a := List.pairwise_iff_getElem.1 hs i (i + 1) (by omega) hi (by omega)
  have b := List.pairwise_iff_getElem.1 hd i (i + 1) (by omega) hi (by omega)
  rw [getD_lt hi, getD_lt (by omega)]
  simp only [Bool.not_eq_true'] at a
  have := key_of a b
  simp only [keyLt] at this
  rw [cmp_neg]; omega

def rawB (ts : List (List UInt8)) : List UInt8 := (ts.map txtB).flatten
theorem fin_eq {acc : List Msg} {ts : List (List UInt8)} {s0 : List UInt8} (hm : ∀ m ∈ acc, MOk m) (h0 : s0 = numB acc.length ++ rawB ts) (ht : ts.length = acc.length) (hr : ∀ i (h : i < acc.length) (h' : i < ts.length), mR acc[i] = true → ts[i] = rowB acc[i]) :
    (if chkM acc = true ∧ putB acc = s0 then (acc, 0) else (([], 110) : List Msg × Nat)) = finR acc := by
  rw [finR]
  by_cases hc : chkM acc = true
  · obtain ⟨c1, c2, c3⟩ := (chkM_iff acc).1 hc
    have e : ts = acc.map rowB := by
      refine List.ext_getElem (by simp [ht]) fun i h1 h2 => ?_
      simp only [List.getElem_map]
      exact hr i (by omega) h1 (c2 _ (List.getElem_mem _))
    by_cases hs : strictF acc (acc.length - 1) 1 = true
    · have hp : putB acc = s0 := by rw [putB, rowsB, strict_sort hs, h0, rawB, e]
      rw [if_pos ⟨hc, hp⟩, if_pos ⟨hs, hc⟩]
    · rw [if_neg (show ¬ (strictF acc (acc.length - 1) 1 = true ∧ chkM acc = true) from fun h => hs h.1), if_neg]
      rintro ⟨_, hp⟩
      apply hs
      refine sort_strict ?_ c3
      -- what is put is the sorted ones' rows
      have h1 := getM_put hm hc
      have h2 : getM s0 = if chkM acc = true ∧ putB acc = s0 then (acc, 0) else ([], 110) := by
        rw [getM, h0, numIn_enc (by omega)]
        simp only [ne_eq, not_true_eq_false, if_false]
        rw [if_neg (by omega)]
        have := getL_enc (numB acc.length ++ rawB ts) acc (fun m h => ⟨hm m h, c2 m h⟩) []
        rw [List.nil_append] at this
        have er : rawB ts = (acc.map fun m => txtB (rowB m)).flatten := by rw [rawB, e, List.map_map]; rfl
        rw [← er] at this
        exact this
      rw [if_pos ⟨hc, hp⟩] at h2
      rw [hp, h2] at h1
      exact (Prod.ext_iff.1 h1).1.symm
  · rw [if_neg (fun h => hc h.1), if_neg (fun h => hc h.2)]
theorem textIn_z (s : List UInt8) : textIn 40 s 0 = ((textL 40 s).2.2, if (textL 40 s).2.1 = 0 then s.drop (textL 40 s).1 else s, (textL 40 s).2.1) := by simp [textIn]
theorem get_eq (s0 : List UInt8) (cnt : Nat) : ∀ (n : Nat) (acc : List Msg) (ts : List (List UInt8)) (s : List UInt8), acc.length + n = cnt → (∀ m ∈ acc, MOk m) → s0 = numB cnt ++ rawB ts ++ s → ts.length = acc.length →
    (∀ i (h : i < acc.length) (h' : i < ts.length), mR acc[i] = true → ts[i] = rowB acc[i]) → getL s0 n acc s = getRL n acc s := by
  intro n
  induction n with
  | zero =>
    intro acc ts s hn hm h0 ht hr
    rw [getL, getRL]
    by_cases hs : s = []
    · have : endIn s 0 = 0 := by simp [endIn, hs]
      rw [if_neg (by omega), if_neg (show ¬ s ≠ [] by simp [hs])]
      refine fin_eq hm ?_ ht hr
      rw [h0, hs, List.append_nil, ← hn]; rfl
    · have : endIn s 0 = 22 := by simp [endIn, hs]
      rw [if_pos (by omega), if_pos hs, this]
  | succ n ih =>
    intro acc ts s hn hm h0 ht hr
    rw [getL, getRL, textIn_z]
    simp only []
    by_cases he : (textL 40 s).2.1 ≠ 0
    · rw [if_pos he, if_pos he]
    rw [if_neg he, if_neg he]
    obtain ⟨l, e, t, hx⟩ : ∃ l e t, textL 40 s = (l, e, t) := ⟨_, _, _, rfl⟩
    rw [hx] at he ⊢
    simp only [ne_eq, Decidable.not_not] at he
    subst he
    simp only [if_true]
    by_cases hb : (msgIn t).2 ≠ 0
    · rw [if_pos hb, rowR, if_neg hb, if_pos hb]
    have hb0 : (msgIn t).2 = 0 := by omega
    rw [if_neg hb, rowR, if_pos hb0]
    simp only [ne_eq, not_true_eq_false, if_false]
    obtain ⟨d1, d2⟩ := textL_dec hx
    refine ih (acc ++ [(msgIn t).1]) (ts ++ [t]) (s.drop l) (by simp; omega) ?_ ?_ (by simp [ht]) ?_
    · intro m h
      rcases List.mem_append.1 h with h | h
      · exact hm m h
      · rw [List.mem_singleton.1 h]; exact msgIn_ok _
    · rw [h0]
      simp only [rawB, List.map_append, List.map_cons, List.map_nil, List.flatten_append, List.flatten_cons, List.flatten_nil, List.append_nil, List.append_assoc]
      rw [← d1]
    · intro i h h' hmr
      by_cases hi : i < acc.length
      · rw [List.getElem_append_left hi] at hmr ⊢
        rw [List.getElem_append_left (by omega)]
        exact hr i hi (by omega) hmr
      · have e1 : i = acc.length := by simp at h; omega
        subst e1
        have g1 : (acc ++ [(msgIn t).1])[acc.length] = (msgIn t).1 := by simp
        have g2 : (ts ++ [t])[acc.length]'h' = t := by simp [← ht]
        rw [g1] at hmr ⊢
        rw [g2]
        exact msgIn_dec hb0 hmr
theorem getM_getR (s : List UInt8) : getM s = getR s := by
  obtain ⟨n, k, e, h⟩ : ∃ n k e, numL 0 0 s = (n, k, e) := ⟨_, _, _, rfl⟩
  rw [getM, getR, numIn_z s h, h]
  simp only []
  by_cases he : e ≠ 0
  · rw [if_pos he, if_pos he]
  obtain rfl : e = 0 := by omega
  rw [if_neg he, if_neg he]
  by_cases h5 : n > 512
  · rw [if_pos h5, if_pos h5]
  rw [if_neg h5, if_neg h5]
  simp only [if_true]
  refine get_eq s n n [] [] (s.drop k) (by simp) (by simp) ?_ rfl (by simp)
  have := numL_dec0 h
  simpa [rawB] using this

theorem getM_len (s : List UInt8) : (getM s).1.length ≤ 512 := by
  by_cases h : (getM s).2 = 0
  · exact chkM_len (getM_ok s h).2.1
  · rw [getM_bad s h]; simp
theorem gets_am {s : List UInt8} : Cl 3 [.str s] [] = some (.bool true, []) := by
  rw [f3_eq]
  by_cases h5 : s.length > 500
  · simp (disch := first | assumption | omega | (with_reducible rfl) | (simp only [go_sem]; done) | (simp only [go_sem]; omega) | fail) only [↓reduceIte, ↓jn_eq, Nat.reduceAdd, go_sem, awake11]
  have hg := Get_am' (s := s) (by omega)
  have hr := refGet_am (s := s) (by omega)
  have hn := getM_len s
  rw [vR, ← getM_getR] at hr
  have hs := refSame_am (f := .sh) (g := .sh) (l := (getM s).1) (m := (getM s).1) (by omega) (by omega)
  rw [decide_eq_true rfl] at hs
  simp (disch := first | assumption | omega | (with_reducible rfl) | (simp only [go_sem]; done) | (simp only [go_sem]; omega) | fail) only [↓reduceIte, ↓jn_eq, Nat.reduceAdd, go_sem, awake11, hg, hr, hs]
end Go.Proofs.YtmjocdbdbofcbaaDoor
end
