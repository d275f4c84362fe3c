/-
  Part of the proof of a statement about the given program: an abstract machine over its code, the simulation, its functions' equations, what they compute.
-/
import Derived.Sort.LotA
import Derived.Sort.LotB
import Derived.Test.YtaghnpjlhmgioaaDoorMg11
import Derived.Test.YtaghnpjlhmgioaaDoorMg5
section
set_option linter.unusedVariables false
set_option linter.unusedSimpArgs false
set_option maxRecDepth 100000
namespace Go.Proofs.YtaghnpjlhmgioaaDoor
open Go AM
namespace Ed
abbrev cm : V := .clo 28 []
def HB (h0 : List V) (id : Nat) (d : Array Edg) : List V := h0.set id (rowM d)
theorem hb_get {h0 : List V} {id : Nat} (hid : id < h0.length) (d : Array Edg) : (HB h0 id d)[id]? = some (rowM d) := by simp [HB, hid]
theorem hb_set {h0 : List V} {id : Nat} (d d' : Array Edg) : (HB h0 id d).set id (rowM d') = HB h0 id d' := by simp [HB]
theorem hb_len {h0 : List V} {id : Nat} (d : Array Edg) : (HB h0 id d).length = h0.length := by simp [HB]
theorem hb_ret {h0 : List V} {id : Nat} (d : Array Edg) : (if (List.all [] V.okE) = true then finT h0.length (HB h0 id d) (V.tup []) else none) = some (.tup [], HB h0 id d) := by
 rw [ret0, List.take_of_length_le (by rw [hb_len]; exact Nat.le_refl _)]
section
variable {B : Type} {h0 : List V} {id N : Nat} (hid : id < h0.length) {d : Array Edg} (hN : N = d.size)
include hid hN
theorem atH {i : Nat} (hi : i < N) (K : V → Option B) :
 (indexA P 22 (V.weak (winM id N)) (.int .i64 (i : Int))).bind (fun a => (ldP (HB h0 id d) 45 a).bind K) = K (vEdg d[i]!) := atM (hb_get hid d) hN hi K
theorem st2 {i j : Nat} (hi : i < N) (hj : j < N) (K : List V → Option B) :
 (indexA P 22 (V.weak (winM id N)) (.int .i64 (i : Int))).bind (fun c => (sto P (HB h0 id d) 45 c (vEdg d[j]!)).bind fun h1 =>
  (indexA P 22 (V.weak (winM id N)) (.int .i64 (j : Int))).bind fun e => (sto P h1 45 e (vEdg d[i]!)).bind K) = K (HB h0 id (Sort.swp d i j)) := by
 refine (stM (hb_get hid d) hN hi _ _).trans ?_
 rw [hb_set]
 refine (stM (hb_get hid _) (by simp [hN]) hj _ _).trans ?_
 rw [hb_set]; rfl
end
theorem ite_lt {B : Type} (b : Bool) (x y : Option B) : V.ite (.bool b) x y = if b = true then x else y := by cases b <;> rfl
theorem subI {B : Type} {a b : Int} (h1 : -4611686018427387904 ≤ a - b) (h2 : a - b < 4611686018427387904) (K : V → Option B) : (bin .sub (.int .i64 a) (.int .i64 b)).bind K = K (.int .i64 (a - b)) := by
 rw [b_sub, wrap_i64 (by omega) (by omega)]; rfl
theorem insInner_size (a : Nat) : ∀ (j : Nat) (d : Array Edg), (Sort.insInner ltE a j d).size = d.size
 | 0, d => rfl
 | j + 1, d => by
   rw [Sort.insInner]; split
   · rw [insInner_size a j]; exact swp_size _ _ _
   · rfl
theorem sd_r {hi first root : Nat} {d : Array Edg} (h1 : ¬ 2 * root + 1 ≥ hi) (h2 : 2 * root + 1 + 1 < hi) (hl : ltE d[first + (2 * root + 1)]! d[first + (2 * root + 1) + 1]! = true) :
 Sort.siftDown ltE hi first root d = if (!ltE d[first + root]! d[first + (2 * root + 1 + 1)]!) = true then d else Sort.siftDown ltE hi first (2 * root + 1 + 1) (Sort.swp d (first + root) (first + (2 * root + 1 + 1))) := by
 rw [Sort.siftDown, dif_neg h1, if_pos (by simp [h2, hl])]
 by_cases hm : (!ltE d[first + root]! d[first + (2 * root + 1 + 1)]!) = true
 · rw [if_pos hm, if_pos hm]
 · rw [if_neg hm, if_neg hm, dif_pos h2]
theorem sd_l {hi first root : Nat} {d : Array Edg} (h1 : ¬ 2 * root + 1 ≥ hi) (h2 : ¬ (2 * root + 1 + 1 < hi ∧ ltE d[first + (2 * root + 1)]! d[first + (2 * root + 1) + 1]! = true)) :
 Sort.siftDown ltE hi first root d = if (!ltE d[first + root]! d[first + (2 * root + 1)]!) = true then d else Sort.siftDown ltE hi first (2 * root + 1) (Sort.swp d (first + root) (first + (2 * root + 1))) := by
 rw [Sort.siftDown, dif_neg h1, if_neg (by simpa using h2)]
theorem sd_0 {hi first root : Nat} {d : Array Edg} (h1 : 2 * root + 1 ≥ hi) : Sort.siftDown ltE hi first root d = d := by
 rw [Sort.siftDown, dif_pos h1]
section
variable {h0 : List V} {id N : Nat} (hid : id < h0.length) (hb62 : N < 1000000000000000000)
include hid hb62
theorem ins_l2 (a b i m : Nat) (ha : a < 4611686018427387904) (hi : i < 4611686018427387000) : ∀ (j : Nat) (d : Array Edg), N = d.size → j < N →
 f57_l2 (winM id N) (.int .i64 (a : Int)) (.int .i64 (b : Int)) cm (.int .i64 (i : Int)) (.int .i64 (j : Int)) h0.length m (HB h0 id d) =
  f57_l0 (winM id N) (.int .i64 (a : Int)) (.int .i64 (b : Int)) cm (.int .i64 ((i + 1 : Nat) : Int)) h0.length (HB h0 id (Sort.insInner ltE a j d)) := by
 intro j
 induction j with
 | zero =>
   intro d hN hj
   rw [f57_l2_eq, f57_r4]
   refine (gtrF (by omega) _).trans ?_
   rw [ite_ff, ite_ff, f57_r2]
   exact addT (b := 1) (by omega) _
 | succ j ih =>
   intro d hN hj
   rw [f57_l2_eq, f57_r4]
   by_cases hj' : j + 1 > a
   · refine (gtrT (by omega) _).trans ?_
     rw [ite_tt]
     refine (atH hid hN hj _).trans <| (subT (b := 1) (by omega) (by omega) _).trans <| (atH hid hN (by omega) _).trans ?_
     refine (cmpV _ _ _).trans ?_
     rw [ite_lt, Nat.add_sub_cancel]
     by_cases hc : ltE d[j + 1]! d[j]! = true
     · have e : Sort.insInner ltE a (j + 1) d = Sort.insInner ltE a j (Sort.swp d (j + 1) j) := by rw [Sort.insInner, if_pos (by simp [hj', hc])]
       rw [if_pos hc, e, f57_r6]
       refine (subT (b := 1) (by omega) (by omega) _).trans <| (subT (b := 1) (by omega) (by omega) _).trans ?_
       rw [Nat.add_sub_cancel]
       refine (atH hid hN (by omega) _).trans <| (atH hid hN hj _).trans <| (st2 hid hN hj (by omega) _).trans ?_
       rw [f57_r5]
       refine (subT (b := 1) (by omega) (by omega) _).trans ?_
       exact ih _ (by rw [swp_size]; exact hN) (by omega)
     · have e : Sort.insInner ltE a (j + 1) d = d := by rw [Sort.insInner, if_neg (by simp [hc])]
       rw [if_neg hc, e, f57_r2]
       exact addT (b := 1) (by omega) _
   · refine (gtrF (by omega) _).trans ?_
     have e : Sort.insInner ltE a (j + 1) d = d := by rw [Sort.insInner, if_neg (by simp; omega)]
     rw [ite_ff, ite_ff, e, f57_r2]
     exact addT (b := 1) (by omega) _
theorem ins_l0 (a b : Nat) (ha : a < 4611686018427387904) (hb : b ≤ N) : ∀ (n i : Nat) (d : Array Edg), N = d.size → b - i = n → i < 4611686018427387000 →
 f57_l0 (winM id N) (.int .i64 (a : Int)) (.int .i64 (b : Int)) cm (.int .i64 (i : Int)) h0.length (HB h0 id d) =
  some (.tup [], HB h0 id (Sort.insOuter ltE a b i d)) := by
 intro n
 induction n with
 | zero =>
   intro i d hN hi h62
   rw [f57_l0_eq, f57_r1, lssF (by omega), ite_ff, hb_ret, Sort.insOuter, if_neg (by omega)]
 | succ n ih =>
   intro i d hN hi h62
   rw [f57_l0_eq, f57_r1, lssT (by omega), ite_tt, f57_r3, Sort.insOuter, if_pos (by omega)]
   refine (ins_l2 hid hb62 a b i _ ha h62 i d hN (by omega)).trans ?_
   exact ih (i + 1) _ (by rw [insInner_size]; exact hN) (by omega) (by omega)
theorem insertion_am {d : Array Edg} {a b : Nat} (hN : N = d.size) (hb : b ≤ N) (ha : a ≤ b) :
 Cl 57 [winM id N, .int .i64 (a : Int), .int .i64 (b : Int), cm] (HB h0 id d) = some (.tup [], HB h0 id (Sort.insertionSort ltE d a b)) := by
 rw [f57_eq, f57_r0]
 refine (addT (b := 1) (by omega) _).trans ?_
 rw [hb_len]
 exact ins_l0 hid hb62 a b (by omega) hb _ (a + 1) d hN rfl (by omega)
theorem sift_l0 (hi first : Nat) (hf : first + hi ≤ N) : ∀ (k root : Nat) (d : Array Edg), N = d.size → hi - root ≤ k → root ≤ hi →
 f80_l0 (winM id N) (.int .i64 (hi : Int)) (.int .i64 (first : Int)) cm (.int .i64 (root : Int)) h0.length (HB h0 id d) =
  some (.tup [], HB h0 id (Sort.siftDown ltE hi first root d)) := by
 intro k
 induction k with
 | zero =>
   intro root d hN hk hr
   rw [f80_l0_eq, f80_r1]
   refine (mulT (a := 2) (by omega) _).trans <| (addT (b := 1) (by omega) _).trans ?_
   rw [f80_r2, geqT (by omega), ite_tt, hb_ret, sd_0 (by omega)]
 | succ k ih =>
   intro root d hN hk hr
   rw [f80_l0_eq, f80_r1]
   refine (mulT (a := 2) (by omega) _).trans <| (addT (b := 1) (by omega) _).trans ?_
   rw [f80_r2]
   by_cases h1 : 2 * root + 1 ≥ hi
   · rw [geqT (by omega), ite_tt, hb_ret, sd_0 h1]
   rw [geqF (by omega), ite_ff, f80_r3]
   refine (addT (b := 1) (by omega) _).trans ?_
   have go : ∀ c, c < hi → root < c →
    f80_r5 (winM id N) (.int .i64 (first : Int)) cm (.int .i64 (root : Int)) (.int .i64 (c : Int)) (HB h0 id d) (fun t58 h_8 =>
     V.ite t58 (if (List.all [] V.okE) = true then finT h0.length h_8 (V.tup []) else none)
      (f80_r6 (winM id N) (.int .i64 (first : Int)) (.int .i64 (root : Int)) (.int .i64 (c : Int)) h_8 fun h_9 =>
       f80_r7 (.int .i64 (c : Int)) fun t10_10 =>
       f80_l0 (winM id N) (.int .i64 (hi : Int)) (.int .i64 (first : Int)) cm t10_10 h0.length h_9)) =
    if (!ltE d[first + root]! d[first + c]!) = true then some (.tup [], HB h0 id d) else some (.tup [], HB h0 id (Sort.siftDown ltE hi first c (Sort.swp d (first + root) (first + c)))) := by
    intro c hc hrc
    rw [f80_r5]
    refine (addT (by omega) _).trans <| (atH hid hN (by omega) _).trans <| (addT (by omega) _).trans <| (atH hid hN (by omega) _).trans <| (cmpV _ _ (fun b h1 => (un .not b).bind fun t => _)).trans ?_
    refine (notT _ _).trans ?_
    rw [ite_lt]
    by_cases hl : (!ltE d[first + root]! d[first + c]!) = true
    · rw [if_pos hl, if_pos hl, hb_ret]
    · rw [if_neg hl, if_neg hl, f80_r6]
      refine (addT (by omega) _).trans <| (addT (by omega) _).trans <| (addT (by omega) _).trans <| (atH hid hN (by omega) _).trans <| (addT (by omega) _).trans <| (atH hid hN (by omega) _).trans <| (st2 hid hN (by omega) (by omega) _).trans ?_
      rw [f80_r7]
      exact ih c _ (by rw [swp_size]; exact hN) (by omega) (by omega)
   by_cases h2 : 2 * root + 1 + 1 < hi
   · refine (lssT (by omega) _).trans ?_
     rw [ite_tt]
     refine (addT (by omega) _).trans <| (atH hid hN (by omega) _).trans <| (addT (by omega) _).trans <| (addT (b := 1) (by omega) _).trans <| (atH hid hN (by omega) _).trans <| (cmpV _ _ _).trans ?_
     simp only [jn]
     rw [ite_lt]
     by_cases hl : ltE d[first + (2 * root + 1)]! d[first + (2 * root + 1) + 1]! = true
     · rw [if_pos hl, f80_r4]
       refine (addT (b := 1) (by omega) _).trans ?_
       refine (go (2 * root + 1 + 1) h2 (by omega)).trans ?_
       rw [sd_r h1 h2 hl]; split <;> rfl
     · rw [if_neg hl]
       refine (go (2 * root + 1) (by omega) (by omega)).trans ?_
       rw [sd_l h1 (by simp [hl])]; split <;> rfl
   · refine (lssF (by omega) _).trans ?_
     rw [ite_ff]
     simp only [jn]
     rw [ite_ff]
     refine (go (2 * root + 1) (by omega) (by omega)).trans ?_
     rw [sd_l h1 (by simp [h2])]; split <;> rfl
theorem sift_am {d : Array Edg} {hi first root : Nat} (hN : N = d.size) (hf : first + hi ≤ N) (hr : root ≤ hi) :
 Cl 80 [winM id N, .int .i64 (root : Int), .int .i64 (hi : Int), .int .i64 (first : Int), cm] (HB h0 id d) = some (.tup [], HB h0 id (Sort.siftDown ltE hi first root d)) := by
 rw [f80_eq, f80_r0, hb_len]
 exact sift_l0 hid hb62 hi first hf _ root d hN (Nat.le_refl _) hr
end
end Ed
end Go.Proofs.YtaghnpjlhmgioaaDoor
end

section
set_option linter.unusedVariables false
set_option linter.unusedSectionVars false
set_option linter.unusedSimpArgs false
set_option maxRecDepth 100000
namespace Go.Proofs.YtaghnpjlhmgioaaDoor
open Go AM
namespace Ed
theorem sd_size (hi first : Nat) : ∀ (k root : Nat) (d : Array Edg), hi - root ≤ k → (Sort.siftDown ltE hi first root d).size = d.size := by
 intro k
 induction k with
 | zero => intro root d hk; rw [sd_0 (by omega)]
 | succ k ih =>
   intro root d hk
   by_cases h1 : 2 * root + 1 ≥ hi
   · rw [sd_0 h1]
   by_cases h2 : 2 * root + 1 + 1 < hi ∧ ltE d[first + (2 * root + 1)]! d[first + (2 * root + 1) + 1]! = true
   · rw [sd_r h1 h2.1 h2.2]; split
     · rfl
     · rw [ih _ _ (by omega), swp_size]
   · rw [sd_l h1 h2]; split
     · rfl
     · rw [ih _ _ (by omega), swp_size]
theorem norm4 (id N : Nat) (a b c : Int) : normL [(winM id N).weak, .int .i64 a, .int .i64 b, .int .i64 c, cm] = [winM id N, .int .i64 a, .int .i64 b, .int .i64 c, cm] := rfl
section
variable {h0 : List V} {id N : Nat} (hid : id < h0.length) (hb62 : N < 1000000000000000000)
include hid hb62
theorem heap_l2 (first hi : Nat) (hf : first + hi ≤ N) : ∀ (k : Nat) (d : Array Edg), N = d.size → k ≤ hi →
 f58_l2 (winM id N) cm (.int .i64 (first : Int)) (.int .i64 0) (.int .i64 ((k : Int) - 1)) h0.length (HB h0 id d) = some (.tup [], HB h0 id (Sort.heapPop ltE first k d)) := by
 intro k
 induction k with
 | zero =>
   intro d hN hk
   rw [f58_l2_eq, f58_r8, geqF (by omega), ite_ff, hb_ret]; rfl
 | succ k ih =>
   intro d hN hk
   rw [f58_l2_eq, f58_r8, geqT (by omega), ite_tt, f58_r10, show ((k + 1 : Nat) : Int) - 1 = (k : Int) by omega]
   refine (addT (by omega) _).trans <| (addT (by omega) _).trans <| (atH hid hN (by omega) _).trans <| (atH hid hN (by omega) _).trans <| (st2 hid hN (by omega) (by omega) _).trans ?_
   rw [f58_r11, norm4]
   refine (bstep (sift_am (root := 0) hid hb62 (by rw [swp_size]; exact hN) (by omega) (by omega)) _).trans ?_
   rw [f58_r9]
   refine (subI (by omega) (by omega) _).trans ?_
   exact ih _ (by rw [sd_size _ _ _ _ _ (Nat.le_refl _), swp_size]; exact hN) (by omega)
theorem heap_l0 (first hi : Nat) (hf : first + hi ≤ N) (h1 : 0 < hi) : ∀ (k : Nat) (d : Array Edg), N = d.size → k ≤ hi →
 f58_l0 (winM id N) cm (.int .i64 (first : Int)) (.int .i64 0) (.int .i64 (hi : Int)) (.int .i64 ((k : Int) - 1)) h0.length (HB h0 id d) = some (.tup [], HB h0 id (Sort.heapPop ltE first hi (Sort.heapBuild ltE hi first k d))) := by
 intro k
 induction k with
 | zero =>
   intro d hN hk
   rw [f58_l0_eq, f58_r4, geqF (by omega), ite_ff, f58_r7]
   refine (subI (by omega) (by omega) _).trans ?_
   exact heap_l2 hid hb62 first hi hf hi d hN (Nat.le_refl _)
 | succ k ih =>
   intro d hN hk
   rw [f58_l0_eq, f58_r4, geqT (by omega), ite_tt, f58_r6, show ((k + 1 : Nat) : Int) - 1 = (k : Int) by omega, norm4]
   refine (bstep (sift_am hid hb62 hN hf (by omega)) _).trans ?_
   rw [f58_r5]
   refine (subI (by omega) (by omega) _).trans ?_
   exact ih _ (by rw [sd_size _ _ _ _ _ (Nat.le_refl _)]; exact hN) (by omega)
theorem heap_am {d : Array Edg} {a b : Nat} (hN : N = d.size) (hb : b ≤ N) (ha : a < b) :
 Cl 58 [winM id N, .int .i64 (a : Int), .int .i64 (b : Int), cm] (HB h0 id d) = some (.tup [], HB h0 id (Sort.heapSort ltE d a b)) := by
 rw [f58_eq, f58_r0, f58_r1, f58_r2]
 refine (subT (by omega) (by omega) _).trans ?_
 rw [f58_r3]
 refine (subT (b := 1) (by omega) (by omega) _).trans ?_
 refine (bstep (b_quo _ _ _ (by omega)) _).trans ?_
 rw [show ((b - a - 1 : Nat) : Int).tdiv 2 = (((b - a - 1) / 2 : Nat) : Int) by rfl, wrap_i64 (by omega) (by omega), hb_len, show (((b - a - 1) / 2 : Nat) : Int) = (((b - a - 1) / 2 + 1 : Nat) : Int) - 1 by omega]
 exact heap_l0 hid hb62 a (b - a) (by omega) (by omega) _ d hN (by omega)
theorem rev_l0 : ∀ (k i j : Nat) (d : Array Edg), N = d.size → j - i ≤ k → j < N →
 f61_l0 (winM id N) (.int .i64 (i : Int)) (.int .i64 (j : Int)) h0.length (HB h0 id d) = some (.tup [], HB h0 id (Sort.reverseLoop i j d)) := by
 intro k
 induction k with
 | zero =>
   intro i j d hN hk hj
   rw [f61_l0_eq, f61_r2, lssF (by omega), ite_ff, hb_ret, Sort.reverseLoop, if_neg (by omega)]
 | succ k ih =>
   intro i j d hN hk hj
   rw [f61_l0_eq, f61_r2]
   by_cases hij : i < j
   · rw [lssT (by omega), ite_tt, f61_r3, Sort.reverseLoop, if_pos hij]
     refine (atH hid hN (by omega) _).trans <| (atH hid hN (by omega) _).trans <| (st2 hid hN (by omega) (by omega) _).trans ?_
     rw [f61_r4]
     refine (addT (b := 1) (by omega) _).trans ?_
     rw [f61_r5]
     refine (subT (b := 1) (by omega) (by omega) _).trans ?_
     exact ih (i + 1) (j - 1) _ (by rw [swp_size]; exact hN) (by omega) (by omega)
   · rw [lssF (by omega), ite_ff, hb_ret, Sort.reverseLoop, if_neg hij]
theorem reverse_am {d : Array Edg} {a b : Nat} (hN : N = d.size) (hb : b ≤ N) (ha : a < b) :
 Cl 61 [winM id N, .int .i64 (a : Int), .int .i64 (b : Int), cm] (HB h0 id d) = some (.tup [], HB h0 id (Sort.reverseRange d a b)) := by
 rw [f61_eq, f61_r0, f61_r1]
 refine (subT (b := 1) (by omega) (by omega) _).trans ?_
 rw [hb_len]
 exact rev_l0 hid hb62 _ a (b - 1) d hN (Nat.le_refl _) (by omega)
end
theorem scanUp_eq (p : Edg → Bool) (d : Array Edg) (j i : Nat) : Sort.scanUp p d j i = if i ≤ j && p d[i]! then Sort.scanUp p d j (i + 1) else i := by rw [Sort.scanUp]
theorem scanUp_ge (p : Edg → Bool) (d : Array Edg) (j : Nat) : ∀ k i, j + 1 - i ≤ k → i ≤ Sort.scanUp p d j i ∧ (i ≤ j + 1 → Sort.scanUp p d j i ≤ j + 1) := by
 intro k
 induction k with
 | zero => intro i hk; rw [scanUp_eq, if_neg (by simp; omega)]; omega
 | succ k ih =>
   intro i hk
   rw [scanUp_eq]
   split
   · rename_i h
     have h1 : i ≤ j := by simp at h; exact h.1
     have := ih (i + 1) (by omega); omega
   · omega
theorem scanDown_le (p : Edg → Bool) (d : Array Edg) (i : Nat) : ∀ j, Sort.scanDown p d i j ≤ j ∧ (1 ≤ i → i ≤ j + 1 → i ≤ Sort.scanDown p d i j + 1)
 | 0 => by simp [Sort.scanDown]
 | j + 1 => by
   rw [Sort.scanDown]
   split
   · rename_i h
     have h1 : i ≤ j + 1 := by simp at h; exact h.1
     have := scanDown_le p d i j; omega
   · omega
section
variable {h0 : List V} {id N : Nat} (hid : id < h0.length) (hb62 : N < 1000000000000000000)
include hid hb62
theorem fin_nat {d : Array Edg} (x : Nat) : finT h0.length (HB h0 id d) (.int .i64 (x : Int)) = some (.int .i64 (x : Int), HB h0 id d) := by
 rw [fin_int, List.take_of_length_le (by rw [hb_len]; exact Nat.le_refl _)]
theorem pe_l2 (a m : Nat) (ha : a < N) {j : Nat} (hj : j < N) (d : Array Edg) (hN : N = d.size) : ∀ (k i : Nat), j + 1 - i ≤ k → i ≤ N →
 f63_l2 (winM id N) (.int .i64 (a : Int)) cm (.int .i64 (i : Int)) (.int .i64 (j : Int)) h0.length m (HB h0 id d) =
  f63_l4 (winM id N) (.int .i64 (a : Int)) cm (.int .i64 (Sort.scanUp (fun x => !ltE d[a]! x) d j i : Nat)) (.int .i64 (j : Int)) h0.length m (HB h0 id d) := by
 intro k
 induction k with
 | zero =>
   intro i hk hi
   rw [f63_l2_eq, f63_r3, leqF (by omega), ite_ff, ite_ff, scanUp_eq, if_neg (by simp; omega)]
 | succ k ih =>
   intro i hk hi
   rw [f63_l2_eq, f63_r3, scanUp_eq]
   by_cases hij : i ≤ j
   · rw [leqT (by omega), ite_tt]
     refine (atH hid hN (by omega) _).trans <| (atH hid hN (by omega) _).trans <| (cmpV _ _ (fun b h1 => (un .not b).bind fun t => _)).trans <| (notT _ _).trans ?_
     rw [ite_lt]
     by_cases hl : (!ltE d[a]! d[i]!) = true
     · rw [if_pos hl, if_pos (by simp [hij]; simpa using hl), f63_r4]
       refine (addT (b := 1) (by omega) _).trans ?_
       exact ih (i + 1) (by omega) (by omega)
     · rw [if_neg hl, if_neg (by simp [hij]; simpa using hl)]
   · rw [leqF (by omega), ite_ff, ite_ff, if_neg (by simp; omega)]
noncomputable def peEnd (h0 : List V) (id N a m i : Nat) (d : Array Edg) (j : Nat) : Option (V × List V) :=
 f63_r7 (.int .i64 (i : Int)) (.int .i64 (j : Int)) fun t70 =>
  V.ite t70 (f63_r11 (.int .i64 (i : Int)) fun t10 => finT h0.length (HB h0 id d) t10)
   (f63_r8 (winM id N) (.int .i64 (i : Int)) (.int .i64 (j : Int)) (HB h0 id d) fun h_12 =>
    f63_r9 (.int .i64 (i : Int)) fun t11_13 =>
    f63_r10 (.int .i64 (j : Int)) fun t12_14 =>
    f63_l0 (winM id N) (.int .i64 (a : Int)) cm t11_13 t12_14 h0.length h_12)
theorem pe_l4 (a m i : Nat) (ha : a < N) (d : Array Edg) (hN : N = d.size) (hi : 1 ≤ i) : ∀ (j : Nat), j < N →
 f63_l4 (winM id N) (.int .i64 (a : Int)) cm (.int .i64 (i : Int)) (.int .i64 (j : Int)) h0.length m (HB h0 id d) =
  peEnd h0 id N a m i d (Sort.scanDown (fun x => ltE d[a]! x) d i j) := by
 intro j
 induction j with
 | zero =>
   intro hj
   rw [f63_l4_eq, f63_r5, leqF (by omega), ite_ff, ite_ff, Sort.scanDown]; rfl
 | succ j ih =>
   intro hj
   rw [f63_l4_eq, f63_r5, Sort.scanDown]
   by_cases hij : i ≤ j + 1
   · rw [leqT (by omega), ite_tt]
     refine (atH hid hN (by omega) _).trans <| (atH hid hN (by omega) _).trans <| (cmpV _ _ _).trans ?_
     rw [ite_lt]
     by_cases hl : ltE d[a]! d[j + 1]! = true
     · rw [if_pos hl, if_pos (by simp [hij, hl]), f63_r6]
       refine (subT (b := 1) (by omega) (by omega) _).trans ?_
       exact ih (by omega)
     · rw [if_neg hl, if_neg (by simp [hij, hl])]; rfl
   · rw [leqF (by omega), ite_ff, ite_ff, if_neg (by simp; omega)]; rfl
theorem partEqLoop_eq (a i j : Nat) (d : Array Edg) (hi : 1 ≤ i) : Sort.partEqLoop ltE a i j d =
 if Sort.scanUp (fun x => !ltE d[a]! x) d j i > Sort.scanDown (fun x => ltE d[a]! x) d (Sort.scanUp (fun x => !ltE d[a]! x) d j i) j then (Sort.scanUp (fun x => !ltE d[a]! x) d j i, d) else
  Sort.partEqLoop ltE a (Sort.scanUp (fun x => !ltE d[a]! x) d j i + 1) (Sort.scanDown (fun x => ltE d[a]! x) d (Sort.scanUp (fun x => !ltE d[a]! x) d j i) j - 1) (Sort.swp d (Sort.scanUp (fun x => !ltE d[a]! x) d j i) (Sort.scanDown (fun x => ltE d[a]! x) d (Sort.scanUp (fun x => !ltE d[a]! x) d j i) j)) := by
 rw [Sort.partEqLoop]
 have u := scanUp_ge (fun x => !ltE d[a]! x) d j _ i (Nat.le_refl _)
 have w := scanDown_le (fun x => ltE d[a]! x) d (Sort.scanUp (fun x => !ltE d[a]! x) d j i) j
 generalize Sort.scanUp (fun x => !ltE d[a]! x) d j i = i2 at *
 generalize Sort.scanDown (fun x => ltE d[a]! x) d i2 j = j2 at *
 by_cases h : i2 > j2
 · rw [if_pos h, if_pos h]
 · rw [if_neg h, if_neg h, dif_pos (by omega)]
theorem pe_l0 (a : Nat) (ha : a < N) : ∀ (k i j : Nat) (d : Array Edg), N = d.size → j + 1 - i ≤ k → 1 ≤ i → i ≤ N → j < N →
 f63_l0 (winM id N) (.int .i64 (a : Int)) cm (.int .i64 (i : Int)) (.int .i64 (j : Int)) h0.length (HB h0 id d) =
  some (.int .i64 ((Sort.partEqLoop ltE a i j d).1 : Nat), HB h0 id (Sort.partEqLoop ltE a i j d).2) := by
 intro k
 induction k with
 | zero =>
   intro i j d hN hk hi hiN hj
   have u := scanUp_ge (fun x => !ltE d[a]! x) d j _ i (Nat.le_refl _)
   have w := scanDown_le (fun x => ltE d[a]! x) d (Sort.scanUp (fun x => !ltE d[a]! x) d j i) j
   rw [f63_l0_eq, pe_l2 hid hb62 a _ ha hj d hN _ i (Nat.le_refl _) hiN, pe_l4 hid hb62 a _ _ ha d hN (by omega) j hj, partEqLoop_eq hid hb62 a i j d hi, peEnd, f63_r7]
   generalize Sort.scanUp (fun x => !ltE d[a]! x) d j i = i2 at *
   generalize Sort.scanDown (fun x => ltE d[a]! x) d i2 j = j2 at *
   rw [if_pos (by omega), gtrT (by omega), ite_tt, f63_r11, fin_nat hid hb62]
 | succ k ih =>
   intro i j d hN hk hi hiN hj
   have u := scanUp_ge (fun x => !ltE d[a]! x) d j _ i (Nat.le_refl _)
   have w := scanDown_le (fun x => ltE d[a]! x) d (Sort.scanUp (fun x => !ltE d[a]! x) d j i) j
   rw [f63_l0_eq, pe_l2 hid hb62 a _ ha hj d hN _ i (Nat.le_refl _) hiN, pe_l4 hid hb62 a _ _ ha d hN (by omega) j hj, partEqLoop_eq hid hb62 a i j d hi, peEnd, f63_r7]
   generalize Sort.scanUp (fun x => !ltE d[a]! x) d j i = i2 at *
   generalize Sort.scanDown (fun x => ltE d[a]! x) d i2 j = j2 at *
   by_cases h : i2 > j2
   · rw [if_pos h, gtrT (by omega), ite_tt, f63_r11, fin_nat hid hb62]
   · rw [if_neg h, gtrF (by omega), ite_ff, f63_r8]
     refine (atH hid hN (by omega) _).trans <| (atH hid hN (by omega) _).trans <| (st2 hid hN (by omega) (by omega) _).trans ?_
     rw [f63_r9]
     refine (addT (b := 1) (by omega) _).trans ?_
     rw [f63_r10]
     refine (subT (b := 1) (by omega) (by omega) _).trans ?_
     exact ih (i2 + 1) (j2 - 1) _ (by rw [swp_size]; exact hN) (by omega) (by omega) (by omega) (by omega)
theorem partEq_am {d : Array Edg} {a b p : Nat} (hN : N = d.size) (hb : b ≤ N) (ha : a < b) (hp : p < N) :
 Cl 63 [winM id N, .int .i64 (a : Int), .int .i64 (b : Int), .int .i64 (p : Int), cm] (HB h0 id d) =
  some (.int .i64 ((Sort.partitionEqual ltE d a b p).1 : Nat), HB h0 id (Sort.partitionEqual ltE d a b p).2) := by
 rw [f63_eq, f63_r0, f63_r1]
 refine (atH hid hN hp _).trans <| (atH hid hN (by omega) _).trans <| (st2 hid hN (by omega) hp _).trans ?_
 rw [f63_r2]
 refine (addT (b := 1) (by omega) _).trans <| (subT (b := 1) (by omega) (by omega) _).trans ?_
 rw [hb_len]
 exact pe_l0 hid hb62 a (by omega) _ (a + 1) (b - 1) _ (by rw [swp_size]; exact hN) (Nat.le_refl _) (by omega) (by omega) (by omega)
end
end Ed
end Go.Proofs.YtaghnpjlhmgioaaDoor
end

section
set_option linter.unusedVariables false
set_option linter.unusedSimpArgs false
set_option linter.unusedSectionVars false
set_option maxRecDepth 100000
namespace Go.Proofs.YtaghnpjlhmgioaaDoor
open Go AM
namespace Ed
theorem ret_ib {n : Nat} {h : List V} {a : Int} {b : Bool} : (if (List.all [V.bool b, V.int .i64 a] V.okE) = true then finT n h (V.tup [.int .i64 a, .bool b]) else none) = some (.tup [.int .i64 a, .bool b], h.take n) := rfl
theorem partLoop_eq (a i j : Nat) (d : Array Edg) (hi : 1 ≤ i) : Sort.partLoop ltE a i j d =
 if Sort.scanUp (fun x => ltE x d[a]!) d j i > Sort.scanDown (fun x => !ltE x d[a]!) d (Sort.scanUp (fun x => ltE x d[a]!) d j i) j then (Sort.scanDown (fun x => !ltE x d[a]!) d (Sort.scanUp (fun x => ltE x d[a]!) d j i) j, d) else
  Sort.partLoop ltE a (Sort.scanUp (fun x => ltE x d[a]!) d j i + 1) (Sort.scanDown (fun x => !ltE x d[a]!) d (Sort.scanUp (fun x => ltE x d[a]!) d j i) j - 1) (Sort.swp d (Sort.scanUp (fun x => ltE x d[a]!) d j i) (Sort.scanDown (fun x => !ltE x d[a]!) d (Sort.scanUp (fun x => ltE x d[a]!) d j i) j)) := by
 rw [Sort.partLoop]
 have u := scanUp_ge (fun x => ltE x d[a]!) d j _ i (Nat.le_refl _)
 have w := scanDown_le (fun x => !ltE x d[a]!) d (Sort.scanUp (fun x => ltE x d[a]!) d j i) j
 generalize Sort.scanUp (fun x => ltE x d[a]!) d j i = i2 at *
 generalize Sort.scanDown (fun x => !ltE x d[a]!) d i2 j = j2 at *
 by_cases h : i2 > j2
 · rw [if_pos h, if_pos h]
 · rw [if_neg h, if_neg h, dif_pos (by omega)]
section
variable {h0 : List V} {id N : Nat} (hid : id < h0.length) (hb62 : N < 1000000000000000000)
include hid hb62
theorem hb_ib {d : Array Edg} {a : Int} {b : Bool} : (if (List.all [V.bool b, V.int .i64 a] V.okE) = true then finT h0.length (HB h0 id d) (V.tup [.int .i64 a, .bool b]) else none) = some (.tup [.int .i64 a, .bool b], HB h0 id d) := by
 rw [ret_ib, List.take_of_length_le (by rw [hb_len]; exact Nat.le_refl _)]
noncomputable def ptE (h0 : List V) (id N a i : Nat) (d : Array Edg) (j : Nat) : Option (V × List V) :=
 f64_r17 (.int .i64 (i : Int)) (.int .i64 (j : Int)) fun t =>
  V.ite t (f64_r21 (winM id N) (.int .i64 (a : Int)) (.int .i64 (j : Int)) (HB h0 id d) fun h1 =>
   f64_r22 (.int .i64 (j : Int)) fun t10 t11 =>
   if (List.all [t11, t10] V.okE) = true then finT h0.length h1 (V.tup [t10, t11]) else none)
   (f64_r18 (winM id N) (.int .i64 (i : Int)) (.int .i64 (j : Int)) (HB h0 id d) fun h1 =>
    f64_r19 (.int .i64 (i : Int)) fun t12 =>
    f64_r20 (.int .i64 (j : Int)) fun t13 =>
    f64_l4 (winM id N) (.int .i64 (a : Int)) cm t12 t13 h0.length h1)
theorem ptE_gt {a i j : Nat} {d : Array Edg} (hN : N = d.size) (ha : a < N) (hj : j < N) (h : i > j) : ptE h0 id N a i d j = some (.tup [.int .i64 (j : Int), .bool false], HB h0 id (Sort.swp d j a)) := by
 rw [ptE, f64_r17, gtrT (by omega), ite_tt, f64_r21]
 refine (atH hid hN ha _).trans <| (atH hid hN hj _).trans <| (st2 hid hN hj ha _).trans ?_
 rw [f64_r22, hb_ib hid hb62]
theorem ptE_le {a i j : Nat} {d : Array Edg} (hN : N = d.size) (hj : j < N) (h1 : 1 ≤ i) (h : ¬ i > j) : ptE h0 id N a i d j =
 f64_l4 (winM id N) (.int .i64 (a : Int)) cm (.int .i64 ((i + 1 : Nat) : Int)) (.int .i64 ((j - 1 : Nat) : Int)) h0.length (HB h0 id (Sort.swp d i j)) := by
 rw [ptE, f64_r17, gtrF (by omega), ite_ff, f64_r18]
 refine (atH hid hN (by omega) _).trans <| (atH hid hN (by omega) _).trans <| (st2 hid hN (by omega) (by omega) _).trans ?_
 rw [f64_r19]
 refine (addT (b := 1) (by omega) _).trans ?_
 rw [f64_r20]
 exact subT (b := 1) (by omega) (by omega) _
theorem pt_l6 (a m : Nat) (ha : a < N) {j : Nat} (hj : j < N) (d : Array Edg) (hN : N = d.size) : ∀ (k i : Nat), j + 1 - i ≤ k → i ≤ N →
 f64_l6 (winM id N) (.int .i64 (a : Int)) cm (.int .i64 (i : Int)) (.int .i64 (j : Int)) h0.length m (HB h0 id d) =
  f64_l8 (winM id N) (.int .i64 (a : Int)) cm (.int .i64 (Sort.scanUp (fun x => ltE x d[a]!) d j i : Nat)) (.int .i64 (j : Int)) h0.length m (HB h0 id d) := by
 intro k
 induction k with
 | zero =>
   intro i hk hi
   rw [f64_l6_eq, f64_r13, leqF (by omega), ite_ff, ite_ff, scanUp_eq, if_neg (by simp; omega)]
 | succ k ih =>
   intro i hk hi
   rw [f64_l6_eq, f64_r13, scanUp_eq]
   by_cases hij : i ≤ j
   · rw [leqT (by omega), ite_tt]
     refine (atH hid hN (by omega) _).trans <| (atH hid hN (by omega) _).trans <| (cmpV _ _ _).trans ?_
     rw [ite_lt]
     by_cases hl : ltE d[i]! d[a]! = true
     · rw [if_pos hl, if_pos (by simp [hij]; simpa using hl), f64_r14]
       refine (addT (b := 1) (by omega) _).trans ?_
       exact ih (i + 1) (by omega) (by omega)
     · rw [if_neg hl, if_neg (by simp [hij]; simpa using hl)]
   · rw [leqF (by omega), ite_ff, ite_ff, if_neg (by simp; omega)]
theorem pt_l8 (a m i : Nat) (ha : a < N) (d : Array Edg) (hN : N = d.size) (hi : 1 ≤ i) : ∀ (j : Nat), j < N →
 f64_l8 (winM id N) (.int .i64 (a : Int)) cm (.int .i64 (i : Int)) (.int .i64 (j : Int)) h0.length m (HB h0 id d) =
  ptE h0 id N a i d (Sort.scanDown (fun x => !ltE x d[a]!) d i j) := by
 intro j
 induction j with
 | zero =>
   intro hj
   rw [f64_l8_eq, f64_r15, leqF (by omega), ite_ff, ite_ff, Sort.scanDown]; rfl
 | succ j ih =>
   intro hj
   rw [f64_l8_eq, f64_r15, Sort.scanDown]
   by_cases hij : i ≤ j + 1
   · rw [leqT (by omega), ite_tt]
     refine (atH hid hN (by omega) _).trans <| (atH hid hN (by omega) _).trans <| (cmpV _ _ (fun b h1 => (un .not b).bind fun t => _)).trans <| (notT _ _).trans ?_
     rw [ite_lt]
     by_cases hl : (!ltE d[j + 1]! d[a]!) = true
     · rw [if_pos hl, if_pos (by simp [hij]; simpa using hl), f64_r16]
       refine (subT (b := 1) (by omega) (by omega) _).trans ?_
       exact ih (by omega)
     · rw [if_neg hl, if_neg (by simp [hij]; simpa using hl)]; rfl
   · rw [leqF (by omega), ite_ff, ite_ff, if_neg (by simp; omega)]; rfl
theorem pt_l4 (a : Nat) (ha : a < N) : ∀ (k i j : Nat) (d : Array Edg), N = d.size → j + 1 - i ≤ k → 1 ≤ i → i ≤ N → j < N →
 f64_l4 (winM id N) (.int .i64 (a : Int)) cm (.int .i64 (i : Int)) (.int .i64 (j : Int)) h0.length (HB h0 id d) =
  some (.tup [.int .i64 ((Sort.partLoop ltE a i j d).1 : Nat), .bool false], HB h0 id (Sort.swp (Sort.partLoop ltE a i j d).2 (Sort.partLoop ltE a i j d).1 a)) := by
 intro k
 induction k with
 | zero =>
   intro i j d hN hk hi hiN hj
   have u := scanUp_ge (fun x => ltE x d[a]!) d j _ i (Nat.le_refl _)
   have w := scanDown_le (fun x => !ltE x d[a]!) d (Sort.scanUp (fun x => ltE x d[a]!) d j i) j
   rw [f64_l4_eq, pt_l6 hid hb62 a _ ha hj d hN _ i (Nat.le_refl _) hiN, pt_l8 hid hb62 a _ _ ha d hN (by omega) j hj, partLoop_eq a i j d hi]
   generalize Sort.scanUp (fun x => ltE x d[a]!) d j i = i2 at *
   generalize Sort.scanDown (fun x => !ltE x d[a]!) d i2 j = j2 at *
   rw [if_pos (by omega), ptE_gt hid hb62 hN ha (by omega) (by omega)]
 | succ k ih =>
   intro i j d hN hk hi hiN hj
   have u := scanUp_ge (fun x => ltE x d[a]!) d j _ i (Nat.le_refl _)
   have w := scanDown_le (fun x => !ltE x d[a]!) d (Sort.scanUp (fun x => ltE x d[a]!) d j i) j
   rw [f64_l4_eq, pt_l6 hid hb62 a _ ha hj d hN _ i (Nat.le_refl _) hiN, pt_l8 hid hb62 a _ _ ha d hN (by omega) j hj, partLoop_eq a i j d hi]
   generalize Sort.scanUp (fun x => ltE x d[a]!) d j i = i2 at *
   generalize Sort.scanDown (fun x => !ltE x d[a]!) d i2 j = j2 at *
   by_cases h : i2 > j2
   · rw [if_pos h, ptE_gt hid hb62 hN ha (by omega) h]
   · rw [if_neg h, ptE_le hid hb62 hN (by omega) (by omega) h]
     exact ih (i2 + 1) (j2 - 1) _ (by rw [swp_size]; exact hN) (by omega) (by omega) (by omega) (by omega)
noncomputable def ptF (h0 : List V) (id N a i : Nat) (d : Array Edg) (j : Nat) : Option (V × List V) :=
 f64_r7 (.int .i64 (i : Int)) (.int .i64 (j : Int)) fun t =>
  V.ite t (f64_r8 (winM id N) (.int .i64 (a : Int)) (.int .i64 (j : Int)) (HB h0 id d) fun h1 =>
   f64_r9 (.int .i64 (j : Int)) fun t10 t11 =>
   if (List.all [t11, t10] V.okE) = true then finT h0.length h1 (V.tup [t10, t11]) else none)
   (f64_r10 (winM id N) (.int .i64 (i : Int)) (.int .i64 (j : Int)) (HB h0 id d) fun h1 =>
    f64_r11 (.int .i64 (i : Int)) fun t12 =>
    f64_r12 (.int .i64 (j : Int)) fun t13 =>
    f64_l4 (winM id N) (.int .i64 (a : Int)) cm t12 t13 h0.length h1)
theorem ptF_gt {a i j : Nat} {d : Array Edg} (hN : N = d.size) (ha : a < N) (hj : j < N) (h : i > j) : ptF h0 id N a i d j = some (.tup [.int .i64 (j : Int), .bool true], HB h0 id (Sort.swp d j a)) := by
 rw [ptF, f64_r7, gtrT (by omega), ite_tt, f64_r8]
 refine (atH hid hN ha _).trans <| (atH hid hN hj _).trans <| (st2 hid hN hj ha _).trans ?_
 rw [f64_r9, hb_ib hid hb62]
theorem ptF_le {a i j : Nat} {d : Array Edg} (hN : N = d.size) (hj : j < N) (h1 : 1 ≤ i) (h : ¬ i > j) : ptF h0 id N a i d j =
 f64_l4 (winM id N) (.int .i64 (a : Int)) cm (.int .i64 ((i + 1 : Nat) : Int)) (.int .i64 ((j - 1 : Nat) : Int)) h0.length (HB h0 id (Sort.swp d i j)) := by
 rw [ptF, f64_r7, gtrF (by omega), ite_ff, f64_r10]
 refine (atH hid hN (by omega) _).trans <| (atH hid hN (by omega) _).trans <| (st2 hid hN (by omega) (by omega) _).trans ?_
 rw [f64_r11]
 refine (addT (b := 1) (by omega) _).trans ?_
 rw [f64_r12]
 exact subT (b := 1) (by omega) (by omega) _
theorem pt_l0 (a : Nat) (ha : a < N) {j : Nat} (hj : j < N) (d : Array Edg) (hN : N = d.size) : ∀ (k i : Nat), j + 1 - i ≤ k → i ≤ N →
 f64_l0 (winM id N) (.int .i64 (a : Int)) cm (.int .i64 (i : Int)) (.int .i64 (j : Int)) h0.length (HB h0 id d) =
  f64_l2 (winM id N) (.int .i64 (a : Int)) cm (.int .i64 (Sort.scanUp (fun x => ltE x d[a]!) d j i : Nat)) (.int .i64 (j : Int)) h0.length (HB h0 id d) := by
 intro k
 induction k with
 | zero =>
   intro i hk hi
   rw [f64_l0_eq, f64_r3, leqF (by omega), ite_ff, ite_ff, scanUp_eq, if_neg (by simp; omega)]
 | succ k ih =>
   intro i hk hi
   rw [f64_l0_eq, f64_r3, scanUp_eq]
   by_cases hij : i ≤ j
   · rw [leqT (by omega), ite_tt]
     refine (atH hid hN (by omega) _).trans <| (atH hid hN (by omega) _).trans <| (cmpV _ _ _).trans ?_
     rw [ite_lt]
     by_cases hl : ltE d[i]! d[a]! = true
     · rw [if_pos hl, if_pos (by simp [hij]; simpa using hl), f64_r4]
       refine (addT (b := 1) (by omega) _).trans ?_
       exact ih (i + 1) (by omega) (by omega)
     · rw [if_neg hl, if_neg (by simp [hij]; simpa using hl)]
   · rw [leqF (by omega), ite_ff, ite_ff, if_neg (by simp; omega)]
theorem pt_l2 (a i : Nat) (ha : a < N) (d : Array Edg) (hN : N = d.size) (hi : 1 ≤ i) : ∀ (j : Nat), j < N →
 f64_l2 (winM id N) (.int .i64 (a : Int)) cm (.int .i64 (i : Int)) (.int .i64 (j : Int)) h0.length (HB h0 id d) =
  ptF h0 id N a i d (Sort.scanDown (fun x => !ltE x d[a]!) d i j) := by
 intro j
 induction j with
 | zero =>
   intro hj
   rw [f64_l2_eq, f64_r5, leqF (by omega), ite_ff, ite_ff, Sort.scanDown]; rfl
 | succ j ih =>
   intro hj
   rw [f64_l2_eq, f64_r5, Sort.scanDown]
   by_cases hij : i ≤ j + 1
   · rw [leqT (by omega), ite_tt]
     refine (atH hid hN (by omega) _).trans <| (atH hid hN (by omega) _).trans <| (cmpV _ _ (fun b h1 => (un .not b).bind fun t => _)).trans <| (notT _ _).trans ?_
     rw [ite_lt]
     by_cases hl : (!ltE d[j + 1]! d[a]!) = true
     · rw [if_pos hl, if_pos (by simp [hij]; simpa using hl), f64_r6]
       refine (subT (b := 1) (by omega) (by omega) _).trans ?_
       exact ih (by omega)
     · rw [if_neg hl, if_neg (by simp [hij]; simpa using hl)]; rfl
   · rw [leqF (by omega), ite_ff, ite_ff, if_neg (by simp; omega)]; rfl
theorem part_am {d : Array Edg} {a b p : Nat} (hN : N = d.size) (hb : b ≤ N) (ha : a < b) (hp : p < N) :
 Cl 64 [winM id N, .int .i64 (a : Int), .int .i64 (b : Int), .int .i64 (p : Int), cm] (HB h0 id d) =
  some (.tup [.int .i64 ((Sort.partition ltE d a b p).1 : Nat), .bool (Sort.partition ltE d a b p).2.1], HB h0 id (Sort.partition ltE d a b p).2.2) := by
 rw [f64_eq, f64_r0, f64_r1]
 refine (atH hid hN hp _).trans <| (atH hid hN (by omega) _).trans <| (st2 hid hN (by omega) hp _).trans ?_
 rw [f64_r2]
 refine (addT (b := 1) (by omega) _).trans <| (subT (b := 1) (by omega) (by omega) _).trans ?_
 have hN' : N = (Sort.swp d a p).size := by rw [swp_size]; exact hN
 rw [hb_len, pt_l0 hid hb62 a (by omega) (show b - 1 < N by omega) _ hN' _ (a + 1) (Nat.le_refl _) (by omega)]
 have u := scanUp_ge (fun x => ltE x (Sort.swp d a p)[a]!) (Sort.swp d a p) (b - 1) _ (a + 1) (Nat.le_refl _)
 have w := scanDown_le (fun x => !ltE x (Sort.swp d a p)[a]!) (Sort.swp d a p) (Sort.scanUp (fun x => ltE x (Sort.swp d a p)[a]!) (Sort.swp d a p) (b - 1) (a + 1)) (b - 1)
 rw [pt_l2 hid hb62 a _ (by omega) _ hN' (by omega) (b - 1) (by omega), Sort.partition]
 simp only []
 generalize Sort.scanUp (fun x => ltE x (Sort.swp d a p)[a]!) (Sort.swp d a p) (b - 1) (a + 1) = i2 at *
 generalize Sort.scanDown (fun x => !ltE x (Sort.swp d a p)[a]!) (Sort.swp d a p) i2 (b - 1) = j2 at *
 by_cases h : i2 > j2
 · rw [if_pos h, ptF_gt hid hb62 hN' (by omega) (by omega) h]
 · rw [if_neg h, ptF_le hid hb62 hN' (by omega) (by omega) h]
   exact pt_l4 hid hb62 a (by omega) _ (i2 + 1) (j2 - 1) _ (by rw [swp_size]; exact hN') (Nat.le_refl _) (by omega) (by omega) (by omega)
end
end Ed
end Go.Proofs.YtaghnpjlhmgioaaDoor
end

section
set_option linter.unusedVariables false
set_option linter.unusedSimpArgs false
set_option linter.unusedSectionVars false
set_option maxRecDepth 100000
namespace Go.Proofs.YtaghnpjlhmgioaaDoor
open Go AM
namespace Ed
theorem scanSorted_eq (d : Array Edg) (b i : Nat) : Sort.scanSorted ltE d b i = if i < b && !ltE d[i]! d[i - 1]! then Sort.scanSorted ltE d b (i + 1) else i := by rw [Sort.scanSorted]
theorem scanSorted_le (d : Array Edg) (b : Nat) : ∀ k i, b - i ≤ k → i ≤ b → i ≤ Sort.scanSorted ltE d b i ∧ Sort.scanSorted ltE d b i ≤ b := by
 intro k
 induction k with
 | zero => intro i hk hi; rw [scanSorted_eq, if_neg (by simp; omega)]; omega
 | succ k ih =>
   intro i hk hi
   rw [scanSorted_eq]
   split
   · rename_i h
     have h1 : i < b := by simp at h; exact h.1
     have := ih (i + 1) (by omega) (by omega); omega
   · omega
theorem shiftUp_eq (b j : Nat) (d : Array Edg) : Sort.shiftUp ltE b j d = if j < b then (if !ltE d[j]! d[j - 1]! then d else Sort.shiftUp ltE b (j + 1) (Sort.swp d j (j - 1))) else d := by rw [Sort.shiftUp]
theorem shiftDown_size : ∀ (j : Nat) (d : Array Edg), (Sort.shiftDown ltE j d).size = d.size
 | 0, d => rfl
 | j + 1, d => by
   rw [Sort.shiftDown]; split
   · rfl
   · rw [shiftDown_size j, swp_size]
theorem shiftUp_size (b : Nat) : ∀ (k j : Nat) (d : Array Edg), b - j ≤ k → (Sort.shiftUp ltE b j d).size = d.size := by
 intro k
 induction k with
 | zero => intro j d hk; rw [shiftUp_eq, if_neg (by omega)]
 | succ k ih =>
   intro j d hk
   rw [shiftUp_eq]
   split
   · split
     · rfl
     · rw [ih _ _ (by omega), swp_size]
   · rfl
section
variable {h0 : List V} {id N : Nat} (hid : id < h0.length) (hb62 : N < 1000000000000000000)
include hid hb62
theorem fin_b {d : Array Edg} (x : Bool) : finT h0.length (HB h0 id d) (.bool x) = some (.bool x, HB h0 id d) := by
 rw [fin_bool, List.take_of_length_le (by rw [hb_len]; exact Nat.le_refl _)]
noncomputable def piNext (h0 : List V) (id N a b i s : Nat) (d : Array Edg) : Option (V × List V) :=
 f62_l0 (winM id N) (.int .i64 (a : Int)) (.int .i64 (b : Int)) cm (.int .i64 (i : Int)) (.int .i64 ((s + 1 : Nat) : Int)) h0.length (HB h0 id d)
theorem pi_r4 {a b i s : Nat} {d : Array Edg} (hs : s < 1000) : (f62_r4 (.int .i64 (s : Int)) fun t10 =>
 f62_l0 (winM id N) (.int .i64 (a : Int)) (.int .i64 (b : Int)) cm (.int .i64 (i : Int)) t10 h0.length (HB h0 id d)) = piNext h0 id N a b i s d := by
 rw [f62_r4]; exact addT (b := 1) (by omega) _
theorem pi_l6 (a b i s m : Nat) (hs : s < 1000) (hb : b ≤ N) : ∀ (k j : Nat) (d : Array Edg), N = d.size → b - j ≤ k → 1 ≤ j → j ≤ b →
 f62_l6 (winM id N) (.int .i64 (a : Int)) (.int .i64 (b : Int)) cm (.int .i64 (i : Int)) (.int .i64 (s : Int)) (.int .i64 (j : Int)) h0.length m (HB h0 id d) = piNext h0 id N a b i s (Sort.shiftUp ltE b j d) := by
 intro k
 induction k with
 | zero =>
   intro j d hN hk h1 hj
   rw [f62_l6_eq, f62_r20, lssF (by omega), ite_ff, pi_r4 hid hb62 hs, shiftUp_eq, if_neg (by omega)]
 | succ k ih =>
   intro j d hN hk h1 hj
   rw [f62_l6_eq, f62_r20, shiftUp_eq]
   by_cases hjb : j < b
   · rw [lssT (by omega), ite_tt, f62_r22, if_pos hjb]
     refine (atH hid hN (by omega) _).trans <| (subT (b := 1) (by omega) (by omega) _).trans <| (atH hid hN (by omega) _).trans <| (cmpV _ _ (fun b h1 => (un .not b).bind fun t => _)).trans <| (notT _ _).trans ?_
     rw [ite_lt]
     by_cases hl : (!ltE d[j]! d[j - 1]!) = true
     · rw [if_pos hl, if_pos hl, pi_r4 hid hb62 hs]
     · rw [if_neg hl, if_neg hl, f62_r23]
       refine (subT (b := 1) (by omega) (by omega) _).trans <| (subT (b := 1) (by omega) (by omega) _).trans ?_
       refine (atH hid hN (by omega) _).trans <| (atH hid hN (by omega) _).trans <| (st2 hid hN (by omega) (by omega) _).trans ?_
       rw [f62_r21]
       refine (addT (b := 1) (by omega) _).trans ?_
       exact ih (j + 1) _ (by rw [swp_size]; exact hN) (by omega) (by omega) (by omega)
   · rw [lssF (by omega), ite_ff, if_neg hjb, pi_r4 hid hb62 hs]
noncomputable def piUp (h0 : List V) (id N a b i s m : Nat) (d : Array Edg) : Option (V × List V) :=
 f62_r18 (.int .i64 (b : Int)) (.int .i64 (i : Int)) fun t104 =>
  V.ite t104 (f62_r19 (.int .i64 (i : Int)) fun t12 =>
   f62_l6 (winM id N) (.int .i64 (a : Int)) (.int .i64 (b : Int)) cm (.int .i64 (i : Int)) (.int .i64 (s : Int)) t12 h0.length m (HB h0 id d))
  (f62_r4 (.int .i64 (s : Int)) fun t10 =>
   f62_l0 (winM id N) (.int .i64 (a : Int)) (.int .i64 (b : Int)) cm (.int .i64 (i : Int)) t10 h0.length (HB h0 id d))
theorem piUp_eq (a b i s m : Nat) (hs : s < 1000) (hb : b ≤ N) (hi : i < b) {d : Array Edg} (hN : N = d.size) : piUp h0 id N a b i s m d = piNext h0 id N a b i s (if b - i ≥ 2 then Sort.shiftUp ltE b (i + 1) d else d) := by
 rw [piUp, f62_r18]
 refine (subT (by omega) (by omega) _).trans ?_
 by_cases h : b - i ≥ 2
 · rw [geqT (by omega), ite_tt, f62_r19, if_pos h]
   refine (addT (b := 1) (by omega) _).trans ?_
   exact pi_l6 hid hb62 a b i s m hs hb _ (i + 1) d hN (Nat.le_refl _) (by omega) (by omega)
 · rw [geqF (by omega), ite_ff, if_neg h, pi_r4 hid hb62 hs]
theorem pi_l4 (a b i s m : Nat) (hs : s < 1000) (hb : b ≤ N) (hi : i < b) : ∀ (j : Nat) (d : Array Edg), N = d.size → j < N →
 f62_l4 (winM id N) (.int .i64 (a : Int)) (.int .i64 (b : Int)) cm (.int .i64 (i : Int)) (.int .i64 (s : Int)) (.int .i64 (j : Int)) h0.length m (HB h0 id d) = piUp h0 id N a b i s m (Sort.shiftDown ltE j d) := by
 intro j
 induction j with
 | zero =>
   intro d hN hj
   rw [f62_l4_eq, f62_r14, geqF (by omega), ite_ff, Sort.shiftDown]; rfl
 | succ j ih =>
   intro d hN hj
   rw [f62_l4_eq, f62_r14, geqT (by omega), ite_tt, f62_r16, Sort.shiftDown]
   refine (atH hid hN (by omega) _).trans <| (subT (b := 1) (by omega) (by omega) _).trans <| (atH hid hN (by omega) _).trans <| (cmpV _ _ (fun b h1 => (un .not b).bind fun t => _)).trans <| (notT _ _).trans ?_
   rw [ite_lt, Nat.add_sub_cancel]
   by_cases hl : (!ltE d[j + 1]! d[j]!) = true
   · rw [if_pos hl, if_pos hl]; rfl
   · rw [if_neg hl, if_neg hl, f62_r17]
     refine (subT (b := 1) (by omega) (by omega) _).trans <| (subT (b := 1) (by omega) (by omega) _).trans ?_
     rw [Nat.add_sub_cancel]
     refine (atH hid hN (by omega) _).trans <| (atH hid hN (by omega) _).trans <| (st2 hid hN (by omega) (by omega) _).trans ?_
     rw [f62_r15]
     refine (subT (b := 1) (by omega) (by omega) _).trans ?_
     rw [Nat.add_sub_cancel]
     exact ih _ (by rw [swp_size]; exact hN) (by omega)
noncomputable def piScan (h0 : List V) (id N a b s m : Nat) (d : Array Edg) (i : Nat) : Option (V × List V) :=
 if i = b then some (.bool true, HB h0 id d) else if b - a < 50 then some (.bool false, HB h0 id d) else
  piUp h0 id N a b i s m (if i - a ≥ 2 then Sort.shiftDown ltE (i - 1) (Sort.swp d i (i - 1)) else Sort.swp d i (i - 1))
theorem pi_l2 (a b s m : Nat) (hs : s < 1000) (hb : b ≤ N) (d : Array Edg) (hN : N = d.size) : ∀ (k i : Nat), b - i ≤ k → a < i → i ≤ b →
 f62_l2 (winM id N) (.int .i64 (a : Int)) (.int .i64 (b : Int)) cm (.int .i64 (i : Int)) (.int .i64 (s : Int)) h0.length m (HB h0 id d) = piScan h0 id N a b s m d (Sort.scanSorted ltE d b i) := by
 have tail : ∀ i, a < i → i ≤ b →
  (f62_r7 (.int .i64 (b : Int)) (.int .i64 (i : Int)) fun t41_7 =>
   V.ite t41_7 (f62_r8 fun t8_8 => finT h0.length (HB h0 id d) t8_8)
   (f62_r9 (.int .i64 (a : Int)) (.int .i64 (b : Int)) fun t45_9 =>
   V.ite t45_9 (f62_r10 fun t8_10 => finT h0.length (HB h0 id d) t8_10)
   (f62_r11 (winM id N) (.int .i64 (i : Int)) (HB h0 id d) fun h_11 =>
   f62_r12 (.int .i64 (a : Int)) (.int .i64 (i : Int)) fun t65_12 =>
   jn (fun h_13 => f62_r18 (.int .i64 (b : Int)) (.int .i64 (i : Int)) fun t104_14 =>
    V.ite t104_14
    (f62_r19 (.int .i64 (i : Int)) fun t12_15 =>
    f62_l6 (winM id N) (.int .i64 (a : Int)) (.int .i64 (b : Int)) cm (.int .i64 (i : Int)) (.int .i64 (s : Int)) t12_15 h0.length m h_13)
    (f62_r4 (.int .i64 (s : Int)) fun t10_23 =>
    f62_l0 (winM id N) (.int .i64 (a : Int)) (.int .i64 (b : Int)) cm (.int .i64 (i : Int)) t10_23 h0.length h_13))
   (fun (j0 : List V → Option (V × List V)) => V.ite t65_12
    (f62_r13 (.int .i64 (i : Int)) fun t11_24 =>
    f62_l4 (winM id N) (.int .i64 (a : Int)) (.int .i64 (b : Int)) cm (.int .i64 (i : Int)) (.int .i64 (s : Int)) t11_24 h0.length m h_11)
    (j0 h_11))))) = piScan h0 id N a b s m d i := by
  intro i h1 h2
  rw [f62_r7, piScan]
  by_cases hib : i = b
  · rw [eqlT (by omega), ite_tt, f62_r8, if_pos hib, fin_b hid hb62]
  rw [eqlF (by omega), ite_ff, f62_r9, if_neg hib]
  refine (subT (by omega) (by omega) _).trans ?_
  by_cases h50 : b - a < 50
  · rw [lssT (by omega), ite_tt, f62_r10, if_pos h50, fin_b hid hb62]
  rw [lssF (by omega), ite_ff, f62_r11, if_neg h50]
  refine (subT (b := 1) (by omega) (by omega) _).trans <| (subT (b := 1) (by omega) (by omega) _).trans ?_
  refine (atH hid hN (by omega) _).trans <| (atH hid hN (by omega) _).trans <| (st2 hid hN (by omega) (by omega) _).trans ?_
  rw [f62_r12]
  refine (subT (by omega) (by omega) _).trans ?_
  have hN' : N = (Sort.swp d i (i - 1)).size := by rw [swp_size]; exact hN
  by_cases h2' : i - a ≥ 2
  · rw [geqT (by omega), if_pos h2']
    simp only [jn]
    rw [ite_tt, f62_r13]
    refine (subT (b := 1) (by omega) (by omega) _).trans ?_
    exact pi_l4 hid hb62 a b i s m hs hb (by omega) (i - 1) _ hN' (by omega)
  · rw [geqF (by omega), if_neg h2']
    simp only [jn]
    rw [ite_ff]; rfl
 intro k
 induction k with
 | zero =>
   intro i hk h1 h2
   rw [f62_l2_eq, f62_r5, lssF (by omega), ite_ff, ite_ff, scanSorted_eq, if_neg (by simp; omega)]
   exact tail i h1 h2
 | succ k ih =>
   intro i hk h1 h2
   rw [f62_l2_eq, f62_r5, scanSorted_eq]
   by_cases hib : i < b
   · rw [lssT (by omega), ite_tt]
     refine (atH hid hN (by omega) _).trans <| (subT (b := 1) (by omega) (by omega) _).trans <| (atH hid hN (by omega) _).trans <| (cmpV _ _ (fun b h1 => (un .not b).bind fun t => _)).trans <| (notT _ _).trans ?_
     rw [ite_lt]
     by_cases hl : (!ltE d[i]! d[i - 1]!) = true
     · rw [if_pos hl, if_pos (by simp [hib]; simpa using hl), f62_r6]
       refine (addT (b := 1) (by omega) _).trans ?_
       exact ih (i + 1) (by omega) (by omega) (by omega)
     · rw [if_neg hl, if_neg (by simp [hib]; simpa using hl)]
       exact tail i h1 h2
   · rw [lssF (by omega), ite_ff, ite_ff, if_neg (by simp; omega)]
     exact tail i h1 h2
theorem pi_l0 (a b : Nat) (hb : b ≤ N) : ∀ (n s i : Nat) (d : Array Edg), N = d.size → s + n = 5 → a < i → i ≤ b →
 f62_l0 (winM id N) (.int .i64 (a : Int)) (.int .i64 (b : Int)) cm (.int .i64 (i : Int)) (.int .i64 (s : Int)) h0.length (HB h0 id d) =
  some (.bool (Sort.partialIns ltE a b n i d).2, HB h0 id (Sort.partialIns ltE a b n i d).1) := by
 intro n
 induction n with
 | zero =>
   intro s i d hN hs h1 h2
   rw [f62_l0_eq, f62_r3, lssF (by omega), ite_ff, f62_r24, fin_b hid hb62]; rfl
 | succ n ih =>
   intro s i d hN hs h1 h2
   rw [f62_l0_eq, f62_r3, lssT (by omega), ite_tt, pi_l2 hid hb62 a b s _ (by omega) hb d hN _ i (Nat.le_refl _) h1 h2]
   have sl := scanSorted_le d b _ i (Nat.le_refl _) h2
   rw [Sort.partialIns, piScan]
   simp only []
   generalize Sort.scanSorted ltE d b i = i2 at *
   by_cases hib : i2 = b
   · rw [if_pos hib, if_pos hib]
   rw [if_neg hib, if_neg hib]
   by_cases h50 : b - a < 50
   · rw [if_pos h50, if_pos h50]
   rw [if_neg h50, if_neg h50]
   have hN' : N = (Sort.swp d i2 (i2 - 1)).size := by rw [swp_size]; exact hN
   generalize hd2 : (if i2 - a ≥ 2 then Sort.shiftDown ltE (i2 - 1) (Sort.swp d i2 (i2 - 1)) else Sort.swp d i2 (i2 - 1)) = d2
   have hN2 : N = d2.size := by rw [← hd2]; split; rw [shiftDown_size]; exact hN'; exact hN'
   rw [piUp_eq hid hb62 a b i2 s _ (by omega) hb (by omega) hN2, piNext]
   refine ih (s + 1) i2 _ ?_ (by omega) (by omega) (by omega)
   split
   · rw [shiftUp_size _ _ _ _ (Nat.le_refl _)]; exact hN2
   · exact hN2
theorem partIns_am {d : Array Edg} {a b : Nat} (hN : N = d.size) (hb : b ≤ N) (ha : a < b) :
 Cl 62 [winM id N, .int .i64 (a : Int), .int .i64 (b : Int), cm] (HB h0 id d) =
  some (.bool (Sort.partialInsertionSort ltE d a b).2, HB h0 id (Sort.partialInsertionSort ltE d a b).1) := by
 rw [f62_eq, f62_r0, f62_r1]
 refine (addT (b := 1) (by omega) _).trans ?_
 rw [f62_r2, hb_len]
 exact pi_l0 hid hb62 a b hb 5 0 (a + 1) d hN rfl (by omega) (by omega)
end
end Ed
end Go.Proofs.YtaghnpjlhmgioaaDoor
end

section
set_option linter.unusedVariables false
set_option linter.unusedSimpArgs false
set_option linter.unusedSectionVars false
set_option maxRecDepth 100000
namespace Go.Proofs.YtaghnpjlhmgioaaDoor
open Go AM
namespace Ed
abbrev iv (n : Nat) : V := .int .i64 (n : Int)
def rSw (sid : Nat) : V := .ref sid [] 3
theorem fin_ii (n : Nat) {h : List V} {a b : Int} : (if (List.all [V.int .i64 b, V.int .i64 a] V.okE) = true then finT n h (V.tup [.int .i64 a, .int .i64 b]) else none) = some (.tup [.int .i64 a, .int .i64 b], h.take n) := rfl
theorem tyInt (n : Nat) : tyOk P 3 (iv n) = true := by simp [tyOk, K_3, scalOk, und_3, iv]
theorem ext0 {B : Type} (a b : V) (K : V → Option B) : (ext (.tup [a, b]) 0).bind K = K a := rfl
theorem ext1 {B : Type} (a b : V) (K : V → Option B) : (ext (.tup [a, b]) 1).bind K = K b := rfl
section
variable {id sid N : Nat} (hb62 : N < 1000000000000000000) (hne : sid ≠ id) {d : Array Edg} (hN : N = d.size)
include hb62 hne hN
theorem order2_am {h : List V} {a b s : Nat} (hd : h[id]? = some (rowM d)) (hs : h[sid]? = some (iv s)) (ha : a < N) (hb : b < N) (h62 : s < 1000000000000000000) :
 Cl 97 [winM id N, iv a, iv b, rSw sid, cm] h =
  some (.tup [iv (Sort.order2 ltE d a b s).1, iv (Sort.order2 ltE d a b s).2.1], h.set sid (iv (Sort.order2 ltE d a b s).2.2)) := by
 rw [f97_eq, f97_r0, f97_r1]
 refine (atM hd hN hb _).trans <| (atM hd hN ha _).trans <| (cmpV _ _ _).trans ?_
 rw [ite_lt, Sort.order2]
 by_cases hl : ltE d[b]! d[a]! = true
 · rw [if_pos hl, if_pos hl, f97_r2]
   refine (bstep (show notNil (rSw sid) = some (rSw sid) from rfl) _).trans <| (bstep (ldP_ref (v := iv s) (rd_nil hs)) _).trans <| (addT (b := 1) (by omega) _).trans ?_
   refine (bstep (show notNil (rSw sid) = some (rSw sid) from rfl) _).trans <| (bstep (sto_nil hs (tyInt (s + 1)) rfl) _).trans ?_
   rw [f97_r3]
   refine (fin_ii _).trans ?_
   rw [List.take_of_length_le (by simp)] <;> rfl
 · rw [if_neg hl, if_neg hl, f97_r4]
   refine (fin_ii _).trans ?_
   rw [List.take_of_length_le (by simp)]
   simp only []
   rw [set_get hs] <;> rfl
theorem order2_s (a b s : Nat) : (Sort.order2 ltE d a b s).2.2 ≤ s + 1 := by rw [Sort.order2]; split <;> simp
theorem order2_lt {a b s : Nat} (ha : a < N) (hb : b < N) : (Sort.order2 ltE d a b s).1 < N ∧ (Sort.order2 ltE d a b s).2.1 < N := by rw [Sort.order2]; split <;> exact ⟨by assumption, by assumption⟩
theorem normO (a b : Nat) : normL [(winM id N).weak, iv a, iv b, rSw sid, cm] = [winM id N, iv a, iv b, rSw sid, cm] := rfl
theorem median_am {h : List V} {a b c s : Nat} (hd : h[id]? = some (rowM d)) (hs : h[sid]? = some (iv s)) (ha : a < N) (hb : b < N) (hc : c < N) (h62 : s < 100000000000000000) :
 Cl 84 [winM id N, iv a, iv b, iv c, rSw sid, cm] h =
  some (iv (Sort.median ltE d a b c s).1, h.set sid (iv (Sort.median ltE d a b c s).2)) := by
 have g : ∀ {h : List V} {s : Nat} (x : Nat), h[sid]? = some (iv s) → (h.set sid (iv x))[sid]? = some (iv x) := fun x hs => get_set _ hs
 have g2 : ∀ {h : List V} (x : Nat), h[id]? = some (rowM d) → (h.set sid (iv x))[id]? = some (rowM d) := fun x hd => by rw [get_set_ne _ (Ne.symm hne)]; exact hd
 have l1 := order2_lt hb62 hne hN (s := s) ha hb
 have s1 := order2_s hb62 hne hN a b s
 rw [f84_eq, f84_r0, f84_r1, normO hb62 hne hN]
 refine (bstep (order2_am hb62 hne hN hd hs ha hb (by omega)) _).trans <| (ext0 _ _ _).trans <| (ext1 _ _ _).trans ?_
 rw [Sort.median]
 simp only []
 generalize Sort.order2 ltE d a b s = r1 at *
 have l2 := order2_lt hb62 hne hN (s := r1.2.2) l1.2 hc
 have s2 := order2_s hb62 hne hN r1.2.1 c r1.2.2
 rw [f84_r2]
 refine (bstep (order2_am hb62 hne hN (g2 _ hd) (g _ hs) l1.2 hc (by omega)) _).trans <| (ext0 _ _ _).trans <| (ext1 _ _ _).trans ?_
 generalize Sort.order2 ltE d r1.2.1 c r1.2.2 = r2 at *
 rw [f84_r3]
 rw [List.set_set]
 refine (bstep (order2_am hb62 hne hN (g2 _ hd) (g _ hs) l1.1 l2.1 (by omega)) _).trans <| (ext0 _ _ _).trans <| (ext1 _ _ _).trans ?_
 generalize Sort.order2 ltE d r1.1 r2.1 r2.2.2 = r3 at *
 rw [f84_r4, List.set_set]
 show finT h.length (h.set sid (iv r3.2.2)) (.int .i64 _) = _
 rw [fin_int, List.take_of_length_le (by simp)] <;> rfl
theorem median_lt {a b c s : Nat} (ha : a < N) (hb : b < N) (hc : c < N) : (Sort.median ltE d a b c s).1 < N ∧ (Sort.median ltE d a b c s).2 ≤ s + 3 := by
 have l1 := order2_lt hb62 hne hN (s := s) ha hb
 have s1 := order2_s hb62 hne hN a b s
 rw [Sort.median]
 simp only []
 generalize Sort.order2 ltE d a b s = r1 at *
 have l2 := order2_lt hb62 hne hN (s := r1.2.2) l1.2 hc
 have s2 := order2_s hb62 hne hN r1.2.1 c r1.2.2
 generalize Sort.order2 ltE d r1.2.1 c r1.2.2 = r2 at *
 have l3 := order2_lt hb62 hne hN (s := r2.2.2) l1.1 l2.1
 have s3 := order2_s hb62 hne hN r1.1 r2.1 r2.2.2
 exact ⟨l3.2, by omega⟩
theorem medAdj_am {h : List V} {a s : Nat} (hd : h[id]? = some (rowM d)) (hs : h[sid]? = some (iv s)) (h1 : 1 ≤ a) (ha : a + 1 < N) (h62 : s < 100000000000000000) :
 Cl 83 [winM id N, iv a, rSw sid, cm] h =
  some (iv (Sort.medianAdjacent ltE d a s).1, h.set sid (iv (Sort.medianAdjacent ltE d a s).2)) := by
 rw [f83_eq, f83_r0, f83_r1]
 refine (subT (b := 1) (by omega) (by omega) _).trans <| (addT (b := 1) (by omega) _).trans ?_
 refine (bstep (median_am (a := a - 1) (b := a) (c := a + 1) hb62 hne hN hd hs (by omega) (by omega) (by omega) h62) _).trans ?_
 rw [Sort.medianAdjacent]
 show finT h.length _ (.int .i64 _) = _
 rw [fin_int, List.take_of_length_le (by simp)] <;> rfl
end
section
variable {h0 : List V} {id N : Nat} (hid : id < h0.length) (hb62 : N < 1000000000000000000)
include hid hb62
def hintN : Sort.Hint → Nat
 | .unknown => 0
 | .increasing => 1
 | .decreasing => 2
theorem pivot_am {d : Array Edg} {a b : Nat} (hN : N = d.size) (hb : b ≤ N) (ha : a < b) :
 Cl 60 [winM id N, iv a, iv b, cm] (HB h0 id d) =
  some (.tup [iv (Sort.choosePivot ltE d a b).1, iv (hintN (Sort.choosePivot ltE d a b).2)], HB h0 id d) := by
 have hz : zero P 3 = iv 0 := by rw [zr_3]; rfl
 have hne : h0.length ≠ id := by omega
 have hd : ∀ x : V, (HB h0 id d ++ [x])[id]? = some (rowM d) := fun x => get_old _ (hb_get hid d)
 have hs : ∀ x : V, (HB h0 id d ++ [x])[h0.length]? = some x := fun x => by
  have := get_last (HB h0 id d) x; rw [hb_len] at this; exact this
 have st : ∀ x y : V, (HB h0 id d ++ [x]).set h0.length y = HB h0 id d ++ [y] := fun x y => by
  have := set_last (HB h0 id d) x y; rw [hb_len] at this; exact this
 have q : ∀ (l : Nat) (k : Nat), l < 1000000000000000000 → k ≤ 3 → ∀ K : V → Option (V × List V), ((bin .quo (.int .i64 (l : Int)) (.int .i64 4)).bind fun t => (bin .mul t (.int .i64 (k : Int))).bind fun t => (bin .add (.int .i64 (a : Int)) t).bind K) = K (iv (a + l / 4 * k)) := by
  intro l k hl hk K
  have hm : l / 4 * k ≤ l := by
   have : l / 4 * k ≤ l / 4 * 3 := Nat.mul_le_mul_left _ hk
   omega
  refine (bstep (b_quo _ _ _ (by omega)) _).trans ?_
  rw [show (l : Int).tdiv 4 = ((l / 4 : Nat) : Int) by rfl, wrap_i64 (by omega) (by omega)]
  refine (mulT (by omega) _).trans ?_
  exact addT (by omega) _
 have fin : ∀ (p s : Nat),
  (f60_r12 (rSw h0.length) (HB h0 id d ++ [iv s]) fun t55_10 =>
   f60_r14 t55_10 fun t57_11 =>
   V.ite t57_11
   (f60_r15 (iv p) fun t8_12 t9_13 =>
   if (List.all [t9_13, t8_12] V.okE) = true then finT (List.length (HB h0 id d)) (HB h0 id d ++ [iv s]) (V.tup [t8_12, t9_13]) else none)
   (f60_r16 t55_10 fun t60_14 =>
   V.ite t60_14
   (f60_r17 (iv p) fun t8_15 t9_16 =>
   if (List.all [t9_16, t8_15] V.okE) = true then finT (List.length (HB h0 id d)) (HB h0 id d ++ [iv s]) (V.tup [t8_15, t9_16]) else none)
   (f60_r13 (iv p) fun t8_17 t9_18 =>
   if (List.all [t9_18, t8_17] V.okE) = true then finT (List.length (HB h0 id d)) (HB h0 id d ++ [iv s]) (V.tup [t8_17, t9_18]) else none))) =
  some (.tup [iv p, iv (hintN (if s = 0 then .increasing else if s = 12 then .decreasing else .unknown))], HB h0 id d) := by
  intro p s
  rw [f60_r12]
  refine (bstep (ldP_ref (rd_nil (hs (iv s)))) _).trans ?_
  rw [f60_r14]
  by_cases h0' : s = 0
  · refine (eqlT (by omega) _).trans ?_
    rw [ite_tt, f60_r15, if_pos h0']
    refine (fin_ii _).trans ?_
    rw [take_old]; rfl
  refine (eqlF (by omega) _).trans ?_
  rw [ite_ff, f60_r16, if_neg h0']
  by_cases h12 : s = 12
  · refine (eqlT (by omega) _).trans ?_
    rw [ite_tt, f60_r17, if_pos h12]
    refine (fin_ii _).trans ?_
    rw [take_old]; rfl
  · refine (eqlF (by omega) _).trans ?_
    rw [ite_ff, f60_r13, if_neg h12]
    refine (fin_ii _).trans ?_
    rw [take_old]; rfl
 rw [f60_eq, f60_r0, f60_r1]
 refine (subT (by omega) (by omega) _).trans ?_
 rw [f60_r2, hz, f60_r3]
 rw [show (HB h0 id d).length = h0.length from hb_len d] at *
 refine (q (b - a) 1 (by omega) (by omega) _).trans ?_
 rw [f60_r4]
 refine (q (b - a) 2 (by omega) (by omega) _).trans ?_
 rw [f60_r5]
 refine (q (b - a) 3 (by omega) (by omega) _).trans ?_
 rw [f60_r6, Sort.choosePivot]
 simp only []
 by_cases h8 : b - a ≥ 8
 · refine (geqT (by omega) _).trans ?_
   simp only [jn]
   rw [ite_tt, f60_r7, if_pos h8]
   by_cases h50 : b - a ≥ 50
   · refine (geqT (by omega) _).trans ?_
     rw [ite_tt, if_pos h50]
     have i1 : 1 ≤ a + (b - a) / 4 * 1 ∧ a + (b - a) / 4 * 1 + 1 < N := by omega
     have i2 : 1 ≤ a + (b - a) / 4 * 2 ∧ a + (b - a) / 4 * 2 + 1 < N := by omega
     have i3 : 1 ≤ a + (b - a) / 4 * 3 ∧ a + (b - a) / 4 * 3 + 1 < N := by omega
     have m1 := median_lt hb62 hne hN (a := a + (b - a) / 4 * 1 - 1) (b := a + (b - a) / 4 * 1) (c := a + (b - a) / 4 * 1 + 1) (s := 0) (by omega) (by omega) (by omega)
     have m1' : Sort.median ltE d (a + (b - a) / 4 * 1 - 1) (a + (b - a) / 4 * 1) (a + (b - a) / 4 * 1 + 1) 0 = Sort.medianAdjacent ltE d (a + (b - a) / 4 * 1) 0 := rfl
     rw [m1'] at m1
     rw [f60_r8]
     refine (bstep (medAdj_am (s := 0) hb62 hne hN (hd _) (hs _) i1.1 i1.2 (by omega)) _).trans ?_
     generalize Sort.medianAdjacent ltE d (a + (b - a) / 4 * 1) 0 = r1 at *
     have m2 := median_lt hb62 hne hN (a := a + (b - a) / 4 * 2 - 1) (b := a + (b - a) / 4 * 2) (c := a + (b - a) / 4 * 2 + 1) (s := r1.2) (by omega) (by omega) (by omega)
     have m2' : Sort.median ltE d (a + (b - a) / 4 * 2 - 1) (a + (b - a) / 4 * 2) (a + (b - a) / 4 * 2 + 1) r1.2 = Sort.medianAdjacent ltE d (a + (b - a) / 4 * 2) r1.2 := rfl
     rw [m2'] at m2
     rw [f60_r9, st]
     refine (bstep (medAdj_am hb62 hne hN (hd _) (hs _) i2.1 i2.2 (by omega)) _).trans ?_
     generalize Sort.medianAdjacent ltE d (a + (b - a) / 4 * 2) r1.2 = r2 at *
     have m3 := median_lt hb62 hne hN (a := a + (b - a) / 4 * 3 - 1) (b := a + (b - a) / 4 * 3) (c := a + (b - a) / 4 * 3 + 1) (s := r2.2) (by omega) (by omega) (by omega)
     have m3' : Sort.median ltE d (a + (b - a) / 4 * 3 - 1) (a + (b - a) / 4 * 3) (a + (b - a) / 4 * 3 + 1) r2.2 = Sort.medianAdjacent ltE d (a + (b - a) / 4 * 3) r2.2 := rfl
     rw [m3'] at m3
     rw [f60_r10, st]
     refine (bstep (medAdj_am hb62 hne hN (hd _) (hs _) i3.1 i3.2 (by omega)) _).trans ?_
     generalize Sort.medianAdjacent ltE d (a + (b - a) / 4 * 3) r2.2 = r3 at *
     rw [f60_r11, st]
     refine (bstep (median_am hb62 hne hN (hd _) (hs _) m1.1 m2.1 m3.1 (by omega)) _).trans ?_
     rw [st]
     exact fin _ _
   · refine (geqF (by omega) _).trans ?_
     rw [ite_ff, if_neg h50, f60_r11]
     refine (bstep (median_am (s := 0) hb62 hne hN (hd _) (hs _) (by omega) (by omega) (by omega) (by omega)) _).trans ?_
     rw [st]
     exact fin _ _
 · refine (geqF (by omega) _).trans ?_
   simp only [jn]
   rw [ite_ff, if_neg h8]
   exact fin _ 0
end
end Ed
end Go.Proofs.YtaghnpjlhmgioaaDoor
end
