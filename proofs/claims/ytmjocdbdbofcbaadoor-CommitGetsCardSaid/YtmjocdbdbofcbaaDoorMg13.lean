/-
  Part of the proof of a statement about the given program: an abstract machine over its code, the simulation, its functions' equations, what they compute.
-/
import Derived.Test.YtmjocdbdbofcbaaDoorMg11
import Derived.Test.YtmjocdbdbofcbaaDoorMg12
import Derived.Test.YtmjocdbdbofcbaaDoorMg4
section
set_option linter.unusedVariables false
set_option linter.unusedSimpArgs false
set_option linter.unusedSectionVars false
set_option maxRecDepth 100000
namespace Go.Proofs.YtmjocdbdbofcbaaDoor
open Go AM

@[go_sem] theorem pl_A32 (l : List UInt8) : (A32 l).pl = true := plL_bytes l
@[go_sem] theorem tyG_A32 (l : List UInt8) : tyG 32 (A32 l) = true := tyG_g ..
theorem zero32 : V.agg 32 (List.replicate 32 (V.int .u8 0)) = A32 (List.replicate 32 0) := rfl
@[go_sem] theorem plL_strs (l : List (List UInt8)) : plL (l.map V.str) = true := plL_map (fun _ => rfl) l
@[go_sem] theorem tyS_strs (l : List (List UInt8)) : (l.map V.str).all tyS = true := all_map (fun _ => rfl) l
@[go_sem] theorem plL_bs (l : List UInt8) : plL (bytesOf l) = true := plL_bytes l

def halfG (n : Nat) : Nat → Nat → Nat
  | 0, k => k
  | f + 1, k => if 2 * k < n then halfG n f (2 * k) else k
def halfN (n : Nat) : Nat := halfG n 62 1
theorem halfG_lt (n : Nat) : ∀ (f k : Nat), 0 < k → k < n → 0 < halfG n f k ∧ halfG n f k < n
  | 0, k, h, h2 => ⟨h, h2⟩
  | f + 1, k, h, h2 => by
    rw [halfG]; split
    · exact halfG_lt n f (2 * k) (by omega) (by omega)
    · exact ⟨h, h2⟩
theorem pow2 {n k f : Nat} (h : n < k * 2 ^ (f + 1)) : n < 2 * k * 2 ^ f := by
  rw [Nat.pow_succ] at h
  have e : k * (2 ^ f * 2) = 2 * k * 2 ^ f := by rw [Nat.mul_comm 2 k, Nat.mul_assoc, Nat.mul_comm (2 ^ f)]
  omega
theorem half_l0 (n : Nat) (hn : n < 2 ^ 61) : ∀ (f k : Nat), 0 < k → k ≤ n → n < k * 2 ^ f → f80_l0 (iv n) (iv k) = some (iv (halfG n f k), []) := by
  intro f
  induction f with
  | zero => intro k h h2 h3; omega
  | succ f ih =>
    intro k h h2 h3
    rw [f80_l0_eq, halfG]
    have h2' : (2 : Int) * (k : Int) = ((2 * k : Nat) : Int) := by omega
    by_cases hk : 2 * k < n
    · rw [if_pos hk]
      refine (bstep (subN (by omega) (by omega)) _).trans <| (lssT (by omega) _).trans ?_
      rw [ite_tt]
      refine (bstep (mul_i (by omega) (by omega)) _).trans ?_
      rw [show (k : Int) * 2 = ((2 * k : Nat) : Int) by omega]
      exact ih (2 * k) (by omega) (by omega) (pow2 h3)
    · rw [if_neg hk]
      refine (bstep (subN (by omega) (by omega)) _).trans <| (lssF (by omega) _).trans ?_
      rfl
theorem Half_am {n : Nat} (h2 : 2 ≤ n) (hn : n < 2 ^ 61) : Cl 80 [iv n] [] = some (iv (halfN n), []) := by
  rw [f80_eq]
  refine (lssF (by omega) _).trans ?_
  rw [ite_ff]
  exact half_l0 n hn 62 1 (by omega) (by omega) (by omega)
/-! ### nodes -/
def nodeB (a b : List UInt8) : List UInt8 := sha ([1] ++ a ++ b)
theorem Node_am {a b : List UInt8} (ha : a.length = 32) (hb : b.length = 32) : Cl 81 [A32 a, A32 b] [] = some (A32 (nodeB a b), []) := by
  have er : V.reify [A32 a, A32 b, A32 (List.replicate 32 0)] (.lst 55 .lent [bL .sh [1], .win 0 [] 0 32 5, .win 1 [] 0 32 5]) = .lst 55 .lent (parts [(.sh, [1]), (.lent, a), (.lent, b)]) := by
    have w := reify_w (h := [A32 a, A32 b, A32 (List.replicate 32 0)]) (id := 0) (c := a) rfl ha
    have w' := reify_w (h := [A32 a, A32 b, A32 (List.replicate 32 0)]) (id := 1) (c := b) rfl hb
    show V.lst 55 .lent [V.reify _ (bL .sh [1]), V.reify [A32 a, A32 b, A32 (List.replicate 32 0)] (.win 0 [] 0 32 5), V.reify [A32 a, A32 b, A32 (List.replicate 32 0)] (.win 1 [] 0 32 5)] = _
    rw [w, w']; rfl
  have ef : flat [(.sh, [1]), (.lent, a), (.lent, b)] = [1] ++ a ++ b := by simp [flat]
  rw [f81_eq, zero32]
  simp (disch := first | assumption | omega | (with_reducible rfl) | (simp only [go_sem]; done) | (simp only [go_sem]; omega) | fail) only [↓reduceIte, ↓jn_eq, Nat.reduceAdd, go_sem]
  refine (bstep (show bsL 55 true (some [.lst 5 .sh [.int .u8 1], (V.win 0 [] 0 32 5).weak, (V.win 1 [] 0 32 5).weak]) = some (.lst 55 .lent [bL .sh [1], .win 0 [] 0 32 5, .win 1 [] 0 32 5]) from rfl) _).trans ?_
  rw [er]
  refine (bstep (of_am _ (by simp) .lent (by rw [ef]; simp; omega) (by rw [ef]; simp)) _).trans ?_
  rw [ef]
  simp (disch := first | assumption | omega | (with_reducible rfl) | (simp only [go_sem]; done) | (simp only [go_sem]; omega) | fail) only [↓reduceIte, ↓jn_eq, Nat.reduceAdd, go_sem]
  rfl
/-! ### tops -/
def topF : Nat → List (List UInt8) → List UInt8
  | 0, _ => sha [2]
  | f + 1, l => if l.length = 0 then sha [2] else if l.length = 1 then sha (0 :: l.getD 0 []) else nodeB (topF f (l.take (halfN l.length))) (topF f (l.drop (halfN l.length)))
theorem topF_len : ∀ (f : Nat) (l : List (List UInt8)), (topF f l).length = 32
  | 0, _ => sha_len _
  | f + 1, l => by rw [topF]; split; · exact sha_len _
                   split <;> exact sha_len _
def Short (l : List (List UInt8)) : Prop := ∀ s ∈ l, s.length < 2147000000
theorem Short.take {l : List (List UInt8)} (h : Short l) (n : Nat) : Short (l.take n) := fun s hs => h s (List.mem_of_mem_take hs)
theorem Short.drop {l : List (List UInt8)} (h : Short l) (n : Nat) : Short (l.drop n) := fun s hs => h s (List.mem_of_mem_drop hs)

theorem of0 {x : Nat} (hx : x < 256) {g : Fl} : Cl 78 [.lst 55 g [.lst 5 .sh [.int .u8 (x : Int)]]] [] = some (A32 (sha [UInt8.ofNat x]), []) := by
  have e : [V.lst 5 .sh [.int .u8 (x : Int)]] = parts [(.sh, [UInt8.ofNat x])] := by
    simp only [parts, part, List.map_cons, List.map_nil, bL, bytesOf]
    rw [UInt8.toNat_ofNat', Nat.mod_eq_of_lt (by omega)]
  rw [e, of_am _ (by simp) g (by simp [flat]) (by simp [flat])]
  simp [flat]

theorem halfN_lt {n : Nat} (h : 2 ≤ n) : 0 < halfN n ∧ halfN n < n := halfG_lt n 62 1 (by omega) (by omega)
theorem Top_am : ∀ (f : Nat) (l : List (List UInt8)) (g : Fl), l.length ≤ f → f < 2000000000 → Short l → Cl 68 [.lst 9 g (l.map V.str)] [] = some (A32 (topF f l), []) := by
  intro f
  induction f with
  | zero =>
    intro l g hl _ _
    have : l = [] := List.eq_nil_of_length_eq_zero (by omega)
    subst this
    rw [f68_eq, zero32, topF]
    simp (disch := first | assumption | omega | (with_reducible rfl) | (simp only [go_sem]; done) | (simp only [go_sem]; omega) | fail) only [↓reduceIte, ↓jn_eq, Nat.reduceAdd, go_sem, List.map_nil]
    refine (bstep (of0 (x := 2) (by omega)) _).trans ?_
    simp (disch := first | assumption | omega | (with_reducible rfl) | (simp only [go_sem]; done) | (simp only [go_sem]; omega) | fail) only [↓reduceIte, ↓jn_eq, Nat.reduceAdd, go_sem]
    rfl
  | succ f ih =>
    intro l g hl hf hs
    rw [f68_eq, zero32, topF]
    by_cases h0 : l.length = 0
    · simp (disch := first | assumption | omega | (with_reducible rfl) | (simp only [go_sem]; done) | (simp only [go_sem]; omega) | fail) only [↓reduceIte, ↓jn_eq, Nat.reduceAdd, go_sem, h0]
      refine (bstep (of0 (x := 2) (by omega)) _).trans ?_
      simp (disch := first | assumption | omega | (with_reducible rfl) | (simp only [go_sem]; done) | (simp only [go_sem]; omega) | fail) only [↓reduceIte, ↓jn_eq, Nat.reduceAdd, go_sem]
      rfl
    by_cases h1 : l.length = 1
    · have hg : l[0]? = some (l.getD 0 []) := by rw [List.getD_eq_getElem?_getD, List.getElem?_eq_getElem (by omega)]; rfl
      have hm : (l.getD 0 []).length < 2147000000 := hs _ (List.mem_of_getElem? hg)
      simp (disch := first | assumption | omega | (with_reducible rfl) | (simp only [go_sem]; done) | (simp only [go_sem]; omega) | fail) only [↓reduceIte, ↓jn_eq, Nat.reduceAdd, go_sem, h0, h1, List.getElem?_map, hg, Leaf_am hm]
      rfl
    have hh := halfN_lt (n := l.length) (by omega)
    have hx : ∀ g, Cl 68 [.lst 9 g ((l.take (halfN l.length)).map V.str)] [] = _ := fun g => ih _ g (by simp; omega) (by omega) (hs.take _)
    have hy : ∀ g, Cl 68 [.lst 9 g ((l.drop (halfN l.length)).map V.str)] [] = _ := fun g => ih _ g (by simp; omega) (by omega) (hs.drop _)
    simp (disch := first | assumption | omega | (with_reducible rfl) | (simp only [go_sem]; done) | (simp only [go_sem]; omega) | fail) only [↓reduceIte, ↓jn_eq, Nat.reduceAdd, go_sem, h0, h1, Half_am (n := l.length) (by omega) (by omega), ← List.map_take, ← List.map_drop, hx, hy, Node_am (topF_len _ _) (topF_len _ _)]
def treeB (l : List (List UInt8)) : List UInt8 := rootB l.length (topF l.length l)
theorem rootB_len (n : Nat) (t : List UInt8) : (rootB n t).length = 32 := sha_len _
theorem Root_am {g : Fl} {l : List (List UInt8)} (hl : l.length < 1000000000) (hs : Short l) : Cl 48 [.lst 9 g (l.map V.str)] [] = some (A32 (treeB l), []) := by
  have h := fun g => Top_am l.length l g (Nat.le_refl _) (by omega) hs
  rw [f48_eq, zero32]
  simp (disch := first | assumption | omega | (with_reducible rfl) | (simp only [go_sem]; done) | (simp only [go_sem]; omega) | fail) only [↓reduceIte, ↓jn_eq, Nat.reduceAdd, go_sem, h, root_am (n := l.length) hl (topF_len _ _)]
  rfl

/-! ### batch.Root -/
@[go_sem] theorem pl_vMsg (m : Msg) : (vMsg m).pl = true := (rfl)
@[go_sem] theorem plL_msgs (l : List Msg) : plL (l.map vMsg) = true := plL_map (fun _ => rfl) l
@[go_sem] theorem tyG_vMsg (m : Msg) : tyG 37 (vMsg m) = true := tyG_g ..
@[go_sem] theorem tyA_msgs (l : List Msg) : (l.map vMsg).all (tyG 37) = true := all_map (fun _ => tyG_g ..) l
theorem rows_short (l : List Msg) : Short (rowsB l) := by
  intro s hs
  obtain ⟨m, _, rfl⟩ := List.mem_map.1 hs
  have := rowB_len m; omega
theorem rows_len (l : List Msg) : (rowsB l).length = l.length := by rw [rowsB, List.length_map, sortM_len]
def brootB (l : List Msg) : List UInt8 := treeB (rowsB l)
theorem BRoot_am {g : Fl} {l : List Msg} (hl : ∀ m ∈ l, MOk m) (hn : l.length ≤ 1000000) : Cl 19 [.lst 38 g (l.map vMsg)] [] = some (A32 (brootB l), []) := by
  have h : ∀ g, Cl 33 [.lst 38 g (l.map vMsg)] [] = some (.lst 9 .sh ((rowsB l).map V.str), []) := fun g => Rows_am hl hn
  rw [f19_eq, zero32]
  simp (disch := first | assumption | omega | (with_reducible rfl) | (simp only [go_sem]; done) | (simp only [go_sem]; omega) | fail) only [↓reduceIte, ↓jn_eq, Nat.reduceAdd, go_sem, h, Root_am (l := rowsB l) (by rw [rows_len]; omega) (rows_short l)]
  rfl
end Go.Proofs.YtmjocdbdbofcbaaDoor
end

section
set_option linter.unusedVariables false
set_option linter.unusedSimpArgs false
set_option linter.unusedSectionVars false
set_option maxRecDepth 100000
namespace Go.Proofs.YtmjocdbdbofcbaaDoor
open Go AM

def inR (x : Int) : Bool := decide (0 ≤ x) && decide (x < 64)
abbrev cc : V := .clo 49 []
/-! ### batch.Put -/
end Go.Proofs.YtmjocdbdbofcbaaDoor
end

section
set_option linter.unusedVariables false
set_option linter.unusedSimpArgs false
set_option linter.unusedSectionVars false
set_option maxRecDepth 100000
namespace Go.Proofs.YtmjocdbdbofcbaaDoor
open Go AM

end Go.Proofs.YtmjocdbdbofcbaaDoor
end

section
set_option linter.unusedVariables false
set_option linter.unusedSimpArgs false
set_option linter.unusedSectionVars false
set_option maxRecDepth 100000
namespace Go.Proofs.YtmjocdbdbofcbaaDoor
open Go AM

end Go.Proofs.YtmjocdbdbofcbaaDoor
end

section
set_option linter.unusedVariables false
set_option linter.unusedSimpArgs false
set_option linter.unusedSectionVars false
set_option maxRecDepth 100000
namespace Go.Proofs.YtmjocdbdbofcbaaDoor
open Go AM

def m1 : Msg := ⟨0, 1, 5⟩
end Go.Proofs.YtmjocdbdbofcbaaDoor
end

section
set_option linter.unusedVariables false
set_option linter.unusedSimpArgs false
set_option linter.unusedSectionVars false
set_option maxRecDepth 100000
namespace Go.Proofs.YtmjocdbdbofcbaaDoor
open Go AM

/-! ### hashes compared -/
theorem eqvL_ne : ∀ a b : List UInt8, a.length = b.length → eqvL (bytesOf a) (bytesOf b) = some (decide (a = b))
  | [], [], _ => rfl
  | x :: a, y :: b, h => by
    have e : ∀ (z : UInt8) (l : List UInt8), bytesOf (z :: l) = .int .u8 (z.toNat : Int) :: bytesOf l := fun _ _ => rfl
    rw [e, e]
    simp only [eqvL, eqv, if_true, Option.bind_some]
    by_cases hxy : x = y
    · subst hxy
      simp [eqvL_ne a b (by simpa using h)]
    · have : ¬ (x.toNat : Int) = (y.toNat : Int) := fun h => hxy (UInt8.toNat_inj.1 (by omega))
      simp [this, hxy]
  | [], _ :: _, h => by simp at h
  | _ :: _, [], h => by simp at h
@[go_sem] theorem eqA {a b : List UInt8} (ha : a.length = 32) (hb : b.length = 32) : eqT (tyG 32) .eql (A32 a) (A32 b) = some (.bool (decide (a = b))) := by
  have h : eqv (A32 a) (A32 b) = some (decide (a = b)) := by simp only [A32, eqv, if_true, eqvL_ne a b (by omega)]
  simp only [eqT, tyG_A32, Bool.and_self, if_true, h, Option.map_some]
@[go_sem] theorem neA {a b : List UInt8} (ha : a.length = 32) (hb : b.length = 32) : eqT (tyG 32) .neq (A32 a) (A32 b) = some (.bool (!decide (a = b))) := by
  have h : eqv (A32 a) (A32 b) = some (decide (a = b)) := by simp only [A32, eqv, if_true, eqvL_ne a b (by omega)]
  simp only [eqT, tyG_A32, Bool.and_self, if_true, h, Option.map_some]
@[go_sem] theorem brootB_len (l : List Msg) : (brootB l).length = 32 := rootB_len _ _

/-! ### the law -/
end Go.Proofs.YtmjocdbdbofcbaaDoor
end

section
set_option linter.unusedVariables false
set_option linter.unusedSimpArgs false
set_option linter.unusedSectionVars false
set_option maxRecDepth 100000
namespace Go.Proofs.YtmjocdbdbofcbaaDoor
open Go AM

theorem eqv_msg (a b : Msg) : eqv (vMsg a) (vMsg b) = some (decide (a = b)) := by
  simp only [vMsg, eqv, eqvL, if_true, Option.bind_some]
  by_cases h1 : a.fr = b.fr <;> by_cases h2 : a.to = b.to <;> by_cases h3 : a.val = b.val <;> cases a <;> cases b <;> simp_all
@[go_sem] theorem eqM (a b : Msg) : eqT (tyG 37) .eql (vMsg a) (vMsg b) = some (.bool (decide (a = b))) := by
  simp only [eqT, tyG_vMsg, Bool.and_self, if_true, eqv_msg, Option.map_some]
@[go_sem] theorem neM (a b : Msg) : eqT (tyG 37) .neq (vMsg a) (vMsg b) = some (.bool (!decide (a = b))) := by
  simp only [eqT, tyG_vMsg, Bool.and_self, if_true, eqv_msg, Option.map_some]
/-! ### sorted by putting in -/
end Go.Proofs.YtmjocdbdbofcbaaDoor
end

section
set_option linter.unusedVariables false
set_option linter.unusedSimpArgs false
set_option linter.unusedSectionVars false
set_option maxRecDepth 100000
namespace Go.Proofs.YtmjocdbdbofcbaaDoor
open Go AM

theorem numL_enc : ∀ (f n k v : Nat) (rest : List UInt8), n < 128 ^ f → 0 < f → (0 < k → 0 < n) → n * 128 ^ k < 18446744073709551616 → k ≤ 9 →
    numL k v (numBf f n ++ rest) = (v + n * 128 ^ k, k + (numBf f n).length, 0) := by
  intro f
  induction f with
  | zero => intro n k v rest _ h; omega
  | succ f ih =>
    intro n k v rest hn _ h0 hb h9
    have k9 : k = 9 → n < 2 := by
      rintro rfl
      rcases Nat.lt_or_ge n 2 with h | h
      · exact h
      · have : 2 * 128 ^ 9 ≤ n * 128 ^ 9 := Nat.mul_le_mul_right _ h
        have e : (128 : Nat) ^ 9 = 9223372036854775808 := by decide
        omega
    rw [numBf]
    by_cases h : n < 128
    · rw [if_pos h]
      have e : (UInt8.ofNat n).toNat = n := by rw [UInt8.toNat_ofNat']; exact Nat.mod_eq_of_lt (by omega)
      simp only [List.cons_append, List.nil_append, numL, e]
      rw [if_neg (by
        rintro (⟨a, b⟩ | ⟨a, b⟩)
        · have := k9 a; omega
        · have := h0 a; omega), if_pos h, Nat.mod_eq_of_lt h]
      rfl
    · rw [if_neg h]
      have e : (UInt8.ofNat (n % 128 + 128)).toNat = n % 128 + 128 := by rw [UInt8.toNat_ofNat']; exact Nat.mod_eq_of_lt (by omega)
      simp only [List.cons_append, numL, e]
      have hk : k < 9 := by
        rcases Nat.lt_or_ge k 9 with h' | h'
        · exact h'
        · have := k9 (by omega); omega
      have hf : 0 < f := by
        rcases Nat.eq_zero_or_pos f with h' | h'
        · subst h'; simp at hn; omega
        · exact h'
      rw [if_neg (by omega), if_neg (by omega)]
      have e1 : (n % 128 + 128) % 128 = n % 128 := by omega
      have e2 : n % 128 * 128 ^ k + n / 128 * 128 ^ (k + 1) = n * 128 ^ k := by
        rw [Nat.pow_succ, Nat.mul_comm (128 ^ k) 128, ← Nat.mul_assoc, ← Nat.add_mul]
        congr 1; omega
      rw [ih (n / 128) (k + 1) _ rest (by rw [Nat.pow_succ] at hn; omega) hf (fun _ => by omega) (by omega) (by omega), e1]
      refine Prod.ext ?_ (Prod.ext ?_ rfl)
      · simp only []; omega
      · simp only [List.length_cons]; omega

theorem numIn_enc {n : Nat} (hn : n < 18446744073709551616) (rest : List UInt8) : numIn (numB n ++ rest) 0 = (n, rest, 0) := by
  have h := numL_enc 10 n 0 0 rest (Nat.lt_of_lt_of_le hn (by decide)) (by omega) (by omega) (by omega) (by omega)
  simp only [Nat.zero_add, Nat.pow_zero, Nat.mul_one] at h
  simp only [numIn, ne_eq, not_true_eq_false, if_false, numB, h, if_true]
  refine Prod.ext rfl (Prod.ext ?_ rfl)
  simp
/-! ### which batches may be -/
/-! ### a batch is read again -/
end Go.Proofs.YtmjocdbdbofcbaaDoor
end

section
set_option linter.unusedVariables false
set_option linter.unusedSimpArgs false
set_option linter.unusedSectionVars false
set_option maxRecDepth 100000
namespace Go.Proofs.YtmjocdbdbofcbaaDoor
open Go AM

@[go_sem] theorem umulN {a b : Nat} (h : a * b < 18446744073709551616) : bin .mul (.int .u64 (a : Int)) (.int .u64 (b : Int)) = some (.int .u64 ((a * b : Nat) : Int)) := by
  have e : ((a * b : Nat) : Int) = (a : Int) * (b : Int) := by push_cast; rfl
  rw [b_mul, ← e, wrap_u64 (by omega) (by omega)]
theorem umulW (a : Int) (b : Int) : bin .mul (.int .u64 a) (.int .u64 b) = some (.int .u64 (IntKind.wrap .u64 (a * b))) := b_mul ..
@[go_sem high] theorem uaddN {a b : Nat} (h : a + b < 18446744073709551616) : bin .add (.int .u64 (a : Int)) (.int .u64 (b : Int)) = some (.int .u64 ((a + b : Nat) : Int)) := by
  rw [b_add, wrap_u64 (by omega) (by omega)]; congr 2
@[go_sem] theorem urem128 (a : Nat) : bin .rem (.int .u64 (a : Int)) (.int .u64 128) = some (.int .u64 ((a % 128 : Nat) : Int)) := remN (b := 128) (by decide) .u64
@[go_sem] theorem urem2 (a : Nat) : bin .rem (.int .u64 (a : Int)) (.int .u64 2) = some (.int .u64 ((a % 2 : Nat) : Int)) := remN (b := 2) (by decide) .u64
@[go_sem] theorem uquo2 {a : Nat} (h : a < 18446744073709551616) : bin .quo (.int .u64 (a : Int)) (.int .u64 2) = some (.int .u64 ((a / 2 : Nat) : Int)) := by
  rw [b_quo _ _ _ (by omega), show (a : Int).tdiv 2 = ((a / 2 : Nat) : Int) from rfl, wrap_u64 (by omega) (by omega)]

theorem refnum_l0 : ∀ (cs s : List UInt8) (k v : Nat), s.drop k = cs → k ≤ s.length → k ≤ 9 → s.length < 4611686018427387904 → v < 128 ^ k →
    f65_l0 (.str s) (.int .u64 (v : Int)) (.int .u64 ((128 ^ k : Nat) : Int)) (.int .i64 (k : Int)) = some (.tup [.int .u64 ((numL k v cs).1 : Int), .int .i64 ((numL k v cs).2.1 : Int), .int .i64 ((numL k v cs).2.2 : Int)], []) := by
  intro cs
  induction cs with
  | nil =>
    intro s k v hd hk h9 hl hv
    have hk' : ¬ k < s.length := by
      have := congrArg List.length hd
      simp at this; omega
    rw [f65_l0_eq]
    simp (disch := first | assumption | omega | (with_reducible rfl) | (simp only [go_sem]; done) | (simp only [go_sem]; omega) | fail) only [↓reduceIte, ↓jn_eq, Nat.reduceAdd, go_sem, numL]
    rfl
  | cons c cs ih =>
    intro s k v hd hk h9 hl hv
    have hb : s[k]? = some c := by
      have := congrArg (·[0]?) hd
      simpa [List.getElem?_drop] using this
    have hlt : k < s.length := lt_get hb
    have hd' : s.drop (k + 1) = cs := by
      rw [← List.drop_drop, hd]; rfl
    have hc : c.toNat < 256 := c.toNat_lt
    rw [f65_l0_eq, numL]
    by_cases hbad : (k = 9 ∧ 1 < c.toNat) ∨ (0 < k ∧ c.toNat = 0)
    · rw [if_pos hbad]
      by_cases h1 : 0 < k
      · by_cases h2 : c.toNat = 0
        · simp (disch := first | assumption | omega | (with_reducible rfl) | (simp only [go_sem]; done) | (simp only [go_sem]; omega) | fail) only [↓reduceIte, ↓jn_eq, Nat.reduceAdd, go_sem, hb, h2]
          rfl
        · by_cases h3 : k = 9
          · simp (disch := first | assumption | omega | (with_reducible rfl) | (simp only [go_sem]; done) | (simp only [go_sem]; omega) | fail) only [↓reduceIte, ↓jn_eq, Nat.reduceAdd, go_sem, hb]
            rfl
          · omega
      · omega
    · rw [if_neg hbad]
      have e : 128 ^ k = 2 ^ (7 * k) := by rw [Nat.pow_mul]
      have hp : 128 ^ k ≤ 2 ^ 63 := by rw [e]; exact Nat.pow_le_pow_right (by omega) (by omega)
      have hpv : c.toNat % 128 * 128 ^ k + v < 18446744073709551616 := by
        by_cases h : k = 9
        · have h1 : c.toNat % 128 ≤ 1 := by omega
          have : c.toNat % 128 * 128 ^ k ≤ 1 * 128 ^ k := Nat.mul_le_mul_right _ h1
          omega
        · have hp8 : 128 ^ k ≤ 2 ^ 56 := by rw [e]; exact Nat.pow_le_pow_right (by omega) (by omega)
          have : c.toNat % 128 * 128 ^ k ≤ 127 * 2 ^ 56 := Nat.mul_le_mul (by omega) hp8
          omega
      have hm : bin .mul (.int .u64 ((c.toNat % 128 : Nat) : Int)) (.int .u64 ((128 ^ k : Nat) : Int)) = some (.int .u64 ((c.toNat % 128 * 128 ^ k : Nat) : Int)) := umulN (by omega)
      have ha : bin .add (.int .u64 (v : Int)) (.int .u64 ((c.toNat % 128 * 128 ^ k : Nat) : Int)) = some (.int .u64 ((v + c.toNat % 128 * 128 ^ k : Nat) : Int)) := uaddN (by omega)
      have hr : (if c.toNat < 128 then (v + c.toNat % 128 * 128 ^ k, k + 1, 0) else numL (k + 1) (v + c.toNat % 128 * 128 ^ k) cs) = numL k v (c :: cs) := by rw [numL, if_neg hbad]
      rw [hr]
      have h3 : k = 9 → ¬ 1 < c.toNat := fun h h' => hbad (Or.inl ⟨h, h'⟩)
      have h2 : 0 < k → ¬ c.toNat = 0 := fun h h' => hbad (Or.inr ⟨h, h'⟩)
      by_cases h : c.toNat < 128
      · rw [← hr, if_pos h]
        by_cases h1 : 0 < k
        · have := h2 h1
          by_cases h4 : k = 9
          · have := h3 h4
            simp (disch := first | assumption | omega | (with_reducible rfl) | (simp only [go_sem]; done) | (simp only [go_sem]; omega) | fail) only [↓reduceIte, ↓jn_eq, Nat.reduceAdd, go_sem, hb, hm, ha, umulW]
            rfl
          · simp (disch := first | assumption | omega | (with_reducible rfl) | (simp only [go_sem]; done) | (simp only [go_sem]; omega) | fail) only [↓reduceIte, ↓jn_eq, Nat.reduceAdd, go_sem, hb, hm, ha, umulW]
            rfl
        · have : ¬ k = 9 := by omega
          simp (disch := first | assumption | omega | (with_reducible rfl) | (simp only [go_sem]; done) | (simp only [go_sem]; omega) | fail) only [↓reduceIte, ↓jn_eq, Nat.reduceAdd, go_sem, hb, hm, ha, umulW]
          rfl
      · have k9 : k < 9 := by omega
        have hw : IntKind.wrap .u64 (((128 ^ k : Nat) : Int) * 128) = ((128 ^ (k + 1) : Nat) : Int) := by
          have hp8 : 128 ^ k ≤ 2 ^ 56 := by rw [e]; exact Nat.pow_le_pow_right (by omega) (by omega)
          rw [Nat.pow_succ, wrap_u64 (by omega) (by omega)]; push_cast; rfl
        have hi := ih s (k + 1) (v + c.toNat % 128 * 128 ^ k) hd' (by omega) (by omega) hl (by
          have h2 : c.toNat % 128 * 128 ^ k ≤ 127 * 128 ^ k := Nat.mul_le_mul_right _ (by omega)
          rw [Nat.pow_succ]; omega)
        rw [← hr, if_neg h]
        by_cases h1 : 0 < k
        · have := h2 h1
          simp (disch := first | assumption | omega | (with_reducible rfl) | (simp only [go_sem]; done) | (simp only [go_sem]; omega) | fail) only [↓reduceIte, ↓jn_eq, Nat.reduceAdd, go_sem, hb, hm, ha, umulW, hw, hi]
        · simp (disch := first | assumption | omega | (with_reducible rfl) | (simp only [go_sem]; done) | (simp only [go_sem]; omega) | fail) only [↓reduceIte, ↓jn_eq, Nat.reduceAdd, go_sem, hb, hm, ha, umulW, hw, hi]
theorem refnum_am {s : List UInt8} (hl : s.length < 4611686018427387904) : Cl 65 [.str s] [] = some (.tup [.int .u64 ((numL 0 0 s).1 : Int), .int .i64 ((numL 0 0 s).2.1 : Int), .int .i64 ((numL 0 0 s).2.2 : Int)], []) := by
  rw [f65_eq]
  exact refnum_l0 s s 0 0 rfl (by omega) (by omega) hl (by decide)

/-! ### fields -/
def z32 : List UInt8 := List.replicate 32 0
/-- a field: kind, most, number, integer, text, hash -/
def vFld (k m : Int) (n : Nat) (i : Int) (s h : List UInt8) : V := .agg 67 [.int .i64 k, .int .i64 m, .int .u64 (n : Int), .int .i64 i, .str s, A32 h]
@[go_sem] theorem pl_vFld (k m : Int) (n : Nat) (i : Int) (s h : List UInt8) : (vFld k m n i s h).pl = true := by simp (disch := first | assumption | omega | (with_reducible rfl) | (simp only [go_sem]; done) | (simp only [go_sem]; omega) | fail) only [↓reduceIte, ↓jn_eq, Nat.reduceAdd, go_sem, vFld]
@[go_sem] theorem tyG_vFld (k m : Int) (n : Nat) (i : Int) (s h : List UInt8) : tyG 67 (vFld k m n i s h) = true := tyG_g ..
theorem zero32' : V.agg 32 (List.replicate 32 (V.int .u8 0)) = A32 z32 := rfl

section
variable {s : List UInt8} (hl : s.length < 4611686018427387904) {n k e : Nat}
include hl
/-- a field whose number is wrong -/
theorem fget_bad (kd m : Int) (hk : kd ≠ 3) (h : numL 0 0 s = (n, k, e)) (he : e ≠ 0) : Cl 40 [.str s, vFld kd m 0 0 [] z32] [] = some (.tup [vFld 0 0 0 0 [] z32, .int .i64 0, .int .i64 (e : Int)], []) := by
  have hn := refnum_am hl
  rw [h] at hn
  rw [f40_eq, zero32', vFld, vFld]
  simp (disch := first | assumption | omega | (with_reducible rfl) | (simp only [go_sem]; done) | (simp only [go_sem]; omega) | fail) only [↓reduceIte, ↓jn_eq, Nat.reduceAdd, go_sem, hn]
  rfl
theorem fget_0 (m : Int) (h : numL 0 0 s = (n, k, 0)) : Cl 40 [.str s, vFld 0 m 0 0 [] z32] [] = some (.tup [vFld 0 0 n 0 [] z32, .int .i64 (k : Int), .int .i64 0], []) := by
  have hn := refnum_am hl
  rw [h] at hn
  rw [f40_eq, zero32', vFld, vFld]
  simp (disch := first | assumption | omega | (with_reducible rfl) | (simp only [go_sem]; done) | (simp only [go_sem]; omega) | fail) only [↓reduceIte, ↓jn_eq, Nat.reduceAdd, go_sem, hn]
end

end Go.Proofs.YtmjocdbdbofcbaaDoor
end

section
set_option linter.unusedVariables false
set_option linter.unusedSimpArgs false
set_option linter.unusedSectionVars false
set_option maxRecDepth 100000
namespace Go.Proofs.YtmjocdbdbofcbaaDoor
open Go AM

/-! ### modillionref11.Right -/
end Go.Proofs.YtmjocdbdbofcbaaDoor
end

section
set_option linter.unusedVariables false
set_option linter.unusedSimpArgs false
set_option linter.unusedSectionVars false
set_option maxRecDepth 100000
namespace Go.Proofs.YtmjocdbdbofcbaaDoor
open Go AM

abbrev m0 : V := .agg 37 [.int .i64 0, .int .i64 0, .int .i64 0]
section
variable {s : List UInt8} (hl : s.length < 4611686018427387904) {n k e : Nat} {i : Nat} {g : Fl} {fs : List V} (hf : plL fs = true) (hy : fs.all (tyG 67) = true) (hfl : fs.length ≤ 10)
include hl hf hy hfl
end
theorem numIn_z (s : List UInt8) {n k e : Nat} (h : numL 0 0 s = (n, k, e)) : numIn s 0 = (n, if e = 0 then s.drop k else s, e) := by
  simp only [numIn, ne_eq, not_true_eq_false, if_false, h]
theorem numIn_s (s : List UInt8) {e : Nat} (h : e ≠ 0) : numIn s e = (0, s, e) := by simp only [numIn, ne_eq, h, not_false_eq_true, if_true]
end Go.Proofs.YtmjocdbdbofcbaaDoor
end

section
set_option linter.unusedVariables false
set_option linter.unusedSimpArgs false
set_option linter.unusedSectionVars false
set_option maxRecDepth 100000
namespace Go.Proofs.YtmjocdbdbofcbaaDoor
open Go AM

section
variable {acc : List Msg} (ha : acc.length ≤ 1000) (f : V)
include ha
end
end Go.Proofs.YtmjocdbdbofcbaaDoor
end

section
set_option linter.unusedVariables false
set_option linter.unusedSimpArgs false
set_option linter.unusedSectionVars false
set_option maxRecDepth 100000
namespace Go.Proofs.YtmjocdbdbofcbaaDoor
open Go AM

structure Cmt where
  wk : Int
  st : Int
  root : List UInt8
  bt : List (List UInt8)
  deriving DecidableEq
def CmtOk (c : Cmt) : Prop := I64 c.wk ∧ I64 c.st ∧ c.root.length = 32 ∧ (∀ h ∈ c.bt, h.length = 32) ∧ c.bt.length ≤ 1000000
abbrev tCm : TypeId := 40
/-- a commitment, whose batches stand in a slice that may be used so -/
abbrev vC (f : Fl) (c : Cmt) : V := .agg tCm [.int .i64 c.wk, .int .i64 c.st, A32 c.root, .lst 33 f (c.bt.map A32)]
@[go_sem] theorem plL_A32s (l : List (List UInt8)) : plL (l.map A32) = true := plL_map pl_A32 l
@[go_sem] theorem tyA_A32s (l : List (List UInt8)) : (l.map A32).all (tyG 32) = true := all_map tyG_A32 l
theorem A32_at {l : List (List UInt8)} {i : Nat} (h : i < l.length) : (l.map A32)[i]? = some (A32 l[i]) := by simp [h]

/-! ### which may be -/
def rightC (c : Cmt) : Bool := inR c.wk && inR c.st && (decide (1 ≤ c.bt.length) && decide (c.bt.length ≤ 64))
theorem in71 (x a b : Int) : Cl 71 [.int .i64 x, .int .i64 a, .int .i64 b] [] = some (.bool (decide (a ≤ x) && decide (x ≤ b)), []) := by
  rw [f71_eq]
  by_cases h : a ≤ x
  · simp (disch := first | assumption | omega | (with_reducible rfl) | (simp only [go_sem]; done) | (simp only [go_sem]; omega) | fail) only [↓reduceIte, ↓jn_eq, Nat.reduceAdd, go_sem]
    rw [decide_eq_true h]; rfl
  · simp (disch := first | assumption | omega | (with_reducible rfl) | (simp only [go_sem]; done) | (simp only [go_sem]; omega) | fail) only [↓reduceIte, ↓jn_eq, Nat.reduceAdd, go_sem]
    rw [decide_eq_false h]; rfl
theorem cv71 {h : List V} (x a b : Int) (k : V → List V → Rv) : callV P ann W (.clo 71 []) [.int .i64 x, .int .i64 a, .int .i64 b] h k = k (.bool (decide (a ≤ x) && decide (x ≤ b))) h := by
  rw [callV_p _ (by kernel_rfl) (by kernel_rfl)]
  simp (disch := first | assumption | omega | (with_reducible rfl) | (simp only [go_sem]; done) | (simp only [go_sem]; omega) | fail) only [↓reduceIte, ↓jn_eq, Nat.reduceAdd, go_sem, in71]
theorem right_am {c : Cmt} (h : CmtOk c) : Cl 51 [vC .sh c] [] = some (.bool (rightC c), []) := by
  rw [f51_eq]
  by_cases h1 : inR c.wk = true
  · have e1 : (decide (0 ≤ c.wk) && decide (c.wk ≤ 63)) = true := by simp only [inR, Bool.and_eq_true, decide_eq_true_eq] at h1 ⊢; omega
    by_cases h2 : inR c.st = true
    · have e2 : (decide (0 ≤ c.st) && decide (c.st ≤ 63)) = true := by simp only [inR, Bool.and_eq_true, decide_eq_true_eq] at h2 ⊢; omega
      simp (disch := first | assumption | omega | (with_reducible rfl) | (simp only [go_sem]; done) | (simp only [go_sem]; omega) | fail) only [↓reduceIte, ↓jn_eq, Nat.reduceAdd, go_sem, cv71, e1, e2]
      rw [rightC, h1, h2]
      congr 3
      rw [Bool.eq_iff_iff]; simp; omega
    · have e2 : (decide (0 ≤ c.st) && decide (c.st ≤ 63)) = false := by
        rw [Bool.eq_false_iff]; intro h; apply h2; simp only [inR, Bool.and_eq_true, decide_eq_true_eq] at h ⊢; omega
      simp (disch := first | assumption | omega | (with_reducible rfl) | (simp only [go_sem]; done) | (simp only [go_sem]; omega) | fail) only [↓reduceIte, ↓jn_eq, Nat.reduceAdd, go_sem, cv71, e1, e2]
      rw [rightC, h1, show inR c.st = false by simpa using h2]; rfl
  · have e1 : (decide (0 ≤ c.wk) && decide (c.wk ≤ 63)) = false := by
      rw [Bool.eq_false_iff]; intro h; apply h1; simp only [inR, Bool.and_eq_true, decide_eq_true_eq] at h ⊢; omega
    simp (disch := first | assumption | omega | (with_reducible rfl) | (simp only [go_sem]; done) | (simp only [go_sem]; omega) | fail) only [↓reduceIte, ↓jn_eq, Nat.reduceAdd, go_sem, cv71, e1]
    rw [rightC, show inR c.wk = false by simpa using h1]; rfl
/-! ### what is written -/
theorem OutHash_am {h : List V} {id : Nat} {l x : List UInt8} (hh : h[id]? = some (vOut .own l)) (hx : x.length = 32) (hl : l.length ≤ 2000000000) : Cl 52 [rOut id, A32 x] h = some (.tup [], h.set id (vOut .own (l ++ x))) := by
  have hid := lt_get hh
  have h1 : (h ++ [A32 x])[id]? = some (vOut .own l) := get_old _ hh
  have ht := fun (K : V × List V → Rv) => takeOut (h := h ++ [A32 x]) (id := id) (f := .own) (l := l) h1 K
  rw [f52_eq, rOut]
  simp (disch := first | assumption | omega | (with_reducible rfl) | (simp only [go_sem]; done) | (simp only [go_sem]; omega) | fail) only [↓reduceIte, ↓jn_eq, Nat.reduceAdd, go_sem]
  refine (ht _).trans ?_
  have hs : ∀ v w : V, (h ++ [A32 x]).set id v = h.set id v ++ [A32 x] := fun v w => set_old _ _ hid
  have hc : content ((h ++ [A32 x]).set id (vOut .sh l)) (.win h.length [] 0 32 5) = some (bytesOf x) := by
    rw [hs _ (V.bool true)]
    have : (h.set id (vOut .sh l) ++ [A32 x])[h.length]? = some (A32 x) := by
      have := get_last (h.set id (vOut .sh l)) (A32 x)
      rwa [List.length_set] at this
    simp only [content, rd]
    rw [this]
    simp [V.at, V.items, A32]
    rw [List.take_of_length_le (by rw [bytesOf_len]; omega)]
  have ap : apL 5 (tyI .u8) false ((h ++ [A32 x]).set id (vOut .sh l)) (bL .own l) (.win h.length [] 0 32 5) = some (bL .own (l ++ x)) := by
    rw [bL, apL_ok (Or.inl rfl) hc (clean_bytes x) (by simp [bytesOf, tyI]) (by rw [bytesOf_len, bytesOf_len]; omega)]
    rw [nlB_f, ← bytesOf_app]; rfl
  refine (bstep ap _).trans ?_
  have hb : ((h ++ [A32 x]).set id (vOut .sh l))[id]? = some (vOut .sh l) := get_set _ h1
  refine (bstep (stT_r1 (i := 0) hb (by simp) rfl rfl 55) _).trans ?_
  rw [List.set_set, hs _ (.bool true)]
  show some (V.tup [], List.take h.length (h.set id _ ++ [A32 x])) = _
  rw [take_set]; rfl

/-- the heap of commit.Put: the commitment, what is written, more -/
theorem NewOut_h (a : V) : Cl 44 [] [a] = some (rOut 1, [a, vOut .nil []]) := NewOut_am [a]
theorem OutNum_h {a : V} {f : Fl} {l : List UInt8} {x : Int} (hf : OK f) (h0 : 0 ≤ x) (h1 : x < 18446744073709551616) (hl : l.length ≤ 2000000000) : Cl 45 [rOut 1, .int .u64 x] [a, vOut f l] = some (.tup [], [a, vOut .own (l ++ numB x.toNat)]) := by
  have := OutNum_am (h := [a, vOut f l]) (id := 1) (n := x.toNat) rfl hf (by omega) (by omega)
  rw [show ((x.toNat : Nat) : Int) = x by omega] at this
  exact this
theorem OutHash_h {a : V} {l x : List UInt8} (hx : x.length = 32) (hl : l.length ≤ 2000000000) : Cl 52 [rOut 1, A32 x] [a, vOut .own l] = some (.tup [], [a, vOut .own (l ++ x)]) := OutHash_am (h := [a, vOut .own l]) (id := 1) rfl hx hl
theorem OutHash_h3 {a b : V} {l x : List UInt8} (hx : x.length = 32) (hl : l.length ≤ 2000000000) : Cl 52 [rOut 1, A32 x] [a, vOut .own l, b] = some (.tup [], [a, vOut .own (l ++ x), b]) := OutHash_am (h := [a, vOut .own l, b]) (id := 1) rfl hx hl
theorem OutDone_h {a : V} {f : Fl} {l : List UInt8} : Cl 47 [rOut 1] [a, vOut f l] = some (.str l, [a, vOut f l]) := OutDone_am (h := [a, vOut f l]) (id := 1) rfl
@[go_sem] theorem norm_rOut (n : Nat) : V.norm (rOut n) = rOut n := (rfl)
@[go_sem] theorem under_rOut {n m : Nat} (h : n < m) : V.under m (rOut n) = true := under_ref h ..
theorem OK_own : OK .own := Or.inl rfl
theorem OK_nil : OK .nil := Or.inr rfl

def cmtB (c : Cmt) : List UInt8 := [67] ++ numB c.wk.toNat ++ numB c.st.toNat ++ c.root ++ numB c.bt.length
def putCB (c : Cmt) : List UInt8 := cmtB c ++ c.bt.flatten
def putCR (c : Cmt) : List UInt8 × Nat := if rightC c = true then (putCB c, 0) else ([], 120)
theorem num67 : numB 67 = [67] := by decide +kernel

theorem cput_l0 {a : V} {bt : List (List UInt8)} (hb : ∀ h ∈ bt, h.length = 32) (hn : bt.length ≤ 1000000) : ∀ (n i : Nat) (l : List UInt8), i + n = bt.length → l.length ≤ 1000 + 32 * i →
    f23_l0 (rOut 1) (.lst 33 .sh (bt.map A32)) (.int .i64 (bt.length : Int)) (.int .i64 (i : Int)) [a, vOut .own l] = some (.tup [.str (l ++ (bt.drop i).flatten), .int .i64 0], []) := by
  intro n
  induction n with
  | zero =>
    intro i l hi hl
    rw [List.drop_eq_nil_of_le (by omega), List.flatten_nil, List.append_nil, f23_l0_eq]
    simp (disch := first | assumption | omega | (with_reducible rfl) | (simp only [go_sem]; done) | (simp only [go_sem]; omega) | fail) only [↓reduceIte, ↓jn_eq, Nat.reduceAdd, go_sem, OutDone_h]
  | succ n ih =>
    intro i l hi hl
    have h : i < bt.length := by omega
    have hx := hb _ (List.getElem_mem h)
    have := ih (i + 1) (l ++ bt[i]) (by omega) (by simp; omega)
    rw [List.drop_eq_getElem_cons h, List.flatten_cons, ← List.append_assoc, ← this, f23_l0_eq, zero32']
    simp (disch := first | assumption | omega | (with_reducible rfl) | (simp only [go_sem]; done) | (simp only [go_sem]; omega) | fail) only [↓reduceIte, ↓jn_eq, Nat.reduceAdd, go_sem, A32_at h, OutHash_h3 hx]
theorem cPut_am {c : Cmt} (h : CmtOk c) : Cl 23 [vC .sh c] [] = some (.tup [.str (putCR c).1, .int .i64 ((putCR c).2 : Int)], []) := by
  obtain ⟨h1, h2, h3, h4, h5⟩ := h
  have hr := right_am ⟨h1, h2, h3, h4, h5⟩
  by_cases hc : rightC c = true
  · rw [putCR, if_pos hc]
    have hc' := hc
    simp only [rightC, inR, Bool.and_eq_true, decide_eq_true_eq] at hc'
    obtain ⟨⟨⟨a1, a2⟩, a3, a4⟩, a5, a6⟩ := hc'
    have b1 : (numB c.wk.toNat).length ≤ 10 := numBf_len 10 _
    have b2 : (numB c.st.toNat).length ≤ 10 := numBf_len 10 _
    have b3 : (numB c.bt.length).length ≤ 10 := numBf_len 10 _
    have hl := cput_l0 (a := vC .sh c) h4 h5 c.bt.length 0 (cmtB c) (by omega) (by simp only [cmtB, List.length_append, List.length_cons, List.length_nil]; omega)
    rw [f23_eq]
    have e67 : numB (Int.toNat 67) = [67] := num67
    have en : (c.bt.length : Int).toNat = c.bt.length := by omega
    simp only [cmtB, List.cons_append, List.nil_append, List.append_assoc, List.drop_zero, c0] at hl
    simp (disch := first | assumption | omega | (with_reducible rfl) | (simp only [go_sem]; done) | (simp only [go_sem]; omega) | fail) only [↓reduceIte, ↓jn_eq, Nat.reduceAdd, go_sem, hr, hc, NewOut_h, OutNum_h OK_nil, OutNum_h OK_own, OutHash_h h3, e67, en, hl]
    simp only [putCB, cmtB, List.cons_append, List.nil_append, List.append_assoc]
    rfl
  · rw [putCR, if_neg hc, f23_eq]
    simp (disch := first | assumption | omega | (with_reducible rfl) | (simp only [go_sem]; done) | (simp only [go_sem]; omega) | fail) only [↓reduceIte, ↓jn_eq, Nat.reduceAdd, go_sem, hr]
    rfl
end Go.Proofs.YtmjocdbdbofcbaaDoor
end

section
set_option linter.unusedVariables false
set_option linter.unusedSimpArgs false
set_option linter.unusedSectionVars false
set_option maxRecDepth 100000
namespace Go.Proofs.YtmjocdbdbofcbaaDoor
open Go AM

theorem rsame_l0 {a b : Cmt} (ha : CmtOk a) (hb : CmtOk b) (hl : a.bt.length = b.bt.length) : ∀ (n i : Nat), i + n = a.bt.length →
    f28_l0 (.ref 0 [] 41) (.ref 1 [] 41) (.int .i64 (i : Int)) [vC .sh a, vC .sh b] = some (.bool (decide (a.bt.drop i = b.bt.drop i)), []) := by
  have hn := ha.2.2.2.2
  intro n
  induction n with
  | zero =>
    intro i hi
    have : ¬ i < a.bt.length := by omega
    rw [List.drop_eq_nil_of_le (by omega), List.drop_eq_nil_of_le (by omega), f28_l0_eq]
    simp (disch := first | assumption | omega | (with_reducible rfl) | (simp only [go_sem]; done) | (simp only [go_sem]; omega) | fail) only [↓reduceIte, ↓jn_eq, Nat.reduceAdd, go_sem]
    rfl
  | succ n ih =>
    intro i hi
    have h1 : i < a.bt.length := by omega
    have h2 : i < b.bt.length := by omega
    have x1 := ha.2.2.2.1 _ (List.getElem_mem h1)
    have x2 := hb.2.2.2.1 _ (List.getElem_mem h2)
    have hi' := ih (i + 1) (by omega)
    rw [List.drop_eq_getElem_cons h1, List.drop_eq_getElem_cons h2]
    by_cases h : a.bt[i] = b.bt[i]
    · have e : decide (a.bt[i] :: a.bt.drop (i + 1) = b.bt[i] :: b.bt.drop (i + 1)) = decide (a.bt.drop (i + 1) = b.bt.drop (i + 1)) := decide_eq_decide.2 ⟨fun e => (List.cons.inj e).2, fun e => by rw [h, e]⟩
      rw [e, ← hi', f28_l0_eq]
      simp (disch := first | assumption | omega | (with_reducible rfl) | (simp only [go_sem]; done) | (simp only [go_sem]; omega) | fail) only [↓reduceIte, ↓jn_eq, Nat.reduceAdd, go_sem, A32_at h1, A32_at h2, neA x1 x2]
    · rw [decide_eq_false (fun e => h (List.cons.inj e).1), f28_l0_eq]
      simp (disch := first | assumption | omega | (with_reducible rfl) | (simp only [go_sem]; done) | (simp only [go_sem]; omega) | fail) only [↓reduceIte, ↓jn_eq, Nat.reduceAdd, go_sem, A32_at h1, A32_at h2, neA x1 x2]
theorem refSameC_am {a b : Cmt} (ha : CmtOk a) (hb : CmtOk b) : Cl 28 [vC .sh a, vC .sh b] [] = some (.bool (decide (a = b)), []) := by
  have x1 := ha.2.2.1
  have x2 := hb.2.2.1
  have ext : a = b ↔ a.wk = b.wk ∧ a.st = b.st ∧ a.root = b.root ∧ a.bt = b.bt := by cases a; cases b; simp
  by_cases h1 : a.wk = b.wk
  · by_cases h2 : a.st = b.st
    · by_cases h3 : a.root = b.root
      · by_cases h4 : a.bt.length = b.bt.length
        · have e : decide (a = b) = decide (a.bt = b.bt) := decide_eq_decide.2 (by rw [ext]; simp [h1, h2, h3])
          have hl := rsame_l0 ha hb h4 a.bt.length 0 (by omega)
          rw [e, f28_eq]
          simp (disch := first | assumption | omega | (with_reducible rfl) | (simp only [go_sem]; done) | (simp only [go_sem]; omega) | fail) only [↓reduceIte, ↓jn_eq, Nat.reduceAdd, go_sem, neA x1 x2]
          exact hl
        · rw [decide_eq_false (fun e => h4 (by rw [e])), f28_eq]
          simp (disch := first | assumption | omega | (with_reducible rfl) | (simp only [go_sem]; done) | (simp only [go_sem]; omega) | fail) only [↓reduceIte, ↓jn_eq, Nat.reduceAdd, go_sem, neA x1 x2]
      · rw [decide_eq_false (fun e => h3 (by rw [e])), f28_eq]
        simp (disch := first | assumption | omega | (with_reducible rfl) | (simp only [go_sem]; done) | (simp only [go_sem]; omega) | fail) only [↓reduceIte, ↓jn_eq, Nat.reduceAdd, go_sem, neA x1 x2]
    · rw [decide_eq_false (fun e => h2 (by rw [e])), f28_eq]
      simp (disch := first | assumption | omega | (with_reducible rfl) | (simp only [go_sem]; done) | (simp only [go_sem]; omega) | fail) only [↓reduceIte, ↓jn_eq, Nat.reduceAdd, go_sem]
  · rw [decide_eq_false (fun e => h1 (by rw [e])), f28_eq]
    simp (disch := first | assumption | omega | (with_reducible rfl) | (simp only [go_sem]; done) | (simp only [go_sem]; omega) | fail) only [↓reduceIte, ↓jn_eq, Nat.reduceAdd, go_sem]

/-! ### hashes are read -/
def hashIn (s : List UInt8) (e : Nat) : List UInt8 × List UInt8 × Nat :=
  if e ≠ 0 then (z32, s, e) else if s.length < 32 then (z32, s, 20) else (s.take 32, s.drop 32, 0)
theorem cpyA {h : List V} {s w : List UInt8} {a : V} (hw : w.length = 32) (hs : 32 ≤ s.length) : cpy P 55 (h ++ [a, A32 w]) (.win (h.length + 1) [] 0 32 5) (.str s) = some (.int .i64 32, h ++ [a, A32 (s.take 32)]) := by
  have hg : (h ++ [a, A32 w])[h.length + 1]? = some (A32 w) := by simp
  have hset : ∀ v, (h ++ [a, A32 w]).set (h.length + 1) v = h ++ [a, v] := by intro v; simp
  have e : sliceE P 55 = 5 := by simp [sliceE, K_55]
  have hm : min (bytesOf s).length 32 = 32 := by rw [bytesOf_len]; omega
  have hrd : rd (h ++ [a, A32 w]) (h.length + 1) [] = some (A32 w) := rd_nil hg
  have hb : (bytesOf s) = s.map fun b => V.int .u8 b.toNat := rfl
  simp only [cpy, e, content]
  rw [← hb, Option.bind_some, hm, hrd]
  simp only [Option.bind_some, A32, V.items, clean_bytes, tyOkL_bytes, Bool.and_self, if_true, nrmL, hs_5, Nat.beq_refl, Bool.true_eq_false, Bool.false_eq_true, if_false, List.take_zero, List.nil_append, Nat.zero_add, bytesOf_take]
  rw [bytesOf_drop, List.drop_of_length_le (by omega)]
  simp only [wr]
  rw [show (V.agg 32 (bytesOf w)) = A32 w from rfl, hg]
  simp only [Option.bind_some, V.upd, Option.map_some, hset]
  simp [bytesOf, A32]
theorem hash_lit {h : List V} {id : Nat} {s : List UInt8} (hh : h[id]? = some (vIn s 0)) (a : V) :
    Reads (.clo 72 [.ref (h.length + 1) [] 33]) (h ++ [a, A32 z32]) s (if s.length < 32 then 0 else 32) (if s.length < 32 then 20 else 0) (h ++ [a, A32 (hashIn s 0).1]) := by
  intro k
  rw [callV_np k (by kernel_rfl) (by kernel_rfl)]
  have e1 : normL ([V.str s] ++ [V.ref (h.length + 1) [] 33]) = [V.str s, V.ref (h.length + 1) [] 33] := rfl
  have tk : ∀ v : V, (h ++ [a, v]).take (h ++ [a, A32 z32]).length = h ++ [a, v] := by
    intro v
    rw [show (h ++ [a, A32 z32]).length = (h ++ [a, v]).length by simp, take_len]
  rw [e1, f72_eq]
  by_cases hs : s.length < 32
  · have e : (hashIn s 0).1 = z32 := by simp [hashIn, hs]
    have t := tk (A32 z32)
    simp only [List.length_append, List.length_cons, List.length_nil] at t
    rw [if_pos hs, if_pos hs, e]
    simp (disch := first | assumption | omega | (with_reducible rfl) | (simp only [go_sem]; done) | (simp only [go_sem]; omega) | fail) only [↓reduceIte, ↓jn_eq, Nat.reduceAdd, go_sem, t]
    rfl
  · have e : (hashIn s 0).1 = s.take 32 := by simp [hashIn, hs]
    have hc := cpyA (h := h) (a := a) (w := z32) rfl (show 32 ≤ s.length by omega)
    have t := tk (A32 (s.take 32))
    simp only [List.length_append, List.length_cons, List.length_nil] at t
    rw [if_neg hs, if_neg hs, e]
    simp (disch := first | assumption | omega | (with_reducible rfl) | (simp only [go_sem]; done) | (simp only [go_sem]; omega) | fail) only [↓reduceIte, ↓jn_eq, Nat.reduceAdd, go_sem, hc, t]
    rfl
theorem Hash_am {h : List V} {id : Nat} {s : List UInt8} {e : Nat} (hh : h[id]? = some (vIn s e)) :
    Cl 53 [rIn id] h = some (A32 (hashIn s e).1, h.set id (vIn (hashIn s e).2.1 (hashIn s e).2.2)) := by
  have hid := lt_get hh
  rw [f53_eq, zero32']
  have hh1 : (h ++ [A32 z32, A32 z32])[id]? = some (vIn s e) := get_old _ hh
  have cap : List.all [V.ref (h.length + 1) [] 33] V.capOk = true := rfl
  have e0 : h ++ [A32 z32] ++ [A32 z32] = h ++ [A32 z32, A32 z32] := by simp
  have e00 : (h ++ [A32 z32]).length = h.length + 1 := by simp
  have e1 : normL [rIn id, V.clo 72 [V.ref (h.length + 1) [] 33]] = [rIn id, V.clo 72 [V.ref (h.length + 1) [] 33]] := rfl
  rw [e0, e00, if_pos cap, Option.bind_some, e1]
  have fin : ∀ (x : List UInt8) (v : V), (ldP (h.set id v ++ [A32 z32, A32 x]) 33 (.ref (h.length + 1) [] 33)).bind (fun t7 => (stT (tyG 32) 33 (h.set id v ++ [A32 z32, A32 x]) (.ref h.length [] 33) t7).bind fun h4 => (ldP h4 33 (.ref h.length [] 33)).bind fun c => finT h.length h4 c) = some (A32 x, h.set id v) := by
    intro x v
    have g1 : (h.set id v ++ [A32 z32, A32 x])[h.length + 1]? = some (A32 x) := by
      rw [List.getElem?_append_right (by simp)]; simp
    have g2 : (h.set id v ++ [A32 z32, A32 x]).set h.length (A32 x) = h.set id v ++ [A32 x, A32 x] := by
      rw [List.set_append_right _ _ (by simp)]; simp
    have g3 : (h.set id v ++ [A32 x, A32 x])[h.length]? = some (A32 x) := by
      rw [List.getElem?_append_right (by simp)]; simp
    have g4 : (h.set id v ++ [A32 x, A32 x]).take h.length = h.set id v := take_set h _ id v
    simp (disch := first | assumption | omega | (with_reducible rfl) | (simp only [go_sem]; done) | (simp only [go_sem]; omega) | fail) only [↓reduceIte, ↓jn_eq, Nat.reduceAdd, go_sem, g1]
    refine (bstep (stT_r0 (by simp) (tyG_A32 x) (by simp only [go_sem]) _) _).trans ?_
    rw [g2]
    simp (disch := first | assumption | omega | (with_reducible rfl) | (simp only [go_sem]; done) | (simp only [go_sem]; omega) | fail) only [↓reduceIte, ↓jn_eq, Nat.reduceAdd, go_sem, g3, g4]
  by_cases he : e = 0
  · subst he
    have hr := read_ok hh1 (hash_lit hh (A32 z32)) (get_old _ hh) (by split <;> omega)
    refine (bstep hr _).trans ?_
    have e4 : ∀ v x, ((h ++ [A32 z32, A32 x]).set id v).take (h ++ [A32 z32, A32 z32]).length = h.set id v ++ [A32 z32, A32 x] := by
      intro v x
      rw [set_old _ _ hid, show (h ++ [A32 z32, A32 z32]).length = (h.set id v ++ [A32 z32, A32 x]).length by simp, take_len]
    rw [e4]
    refine (fin _ _).trans ?_
    by_cases hs : s.length < 32
    · simp [hashIn, hs]
    · simp [hashIn, hs]
  · refine (bstep (read_bad hh1 he) _).trans ?_
    have := fin z32 (vIn s e)
    rw [set_get hh] at this
    refine this.trans ?_
    simp only [hashIn, he, ne_eq, not_false_eq_true, if_true]
    rw [set_get hh]
end Go.Proofs.YtmjocdbdbofcbaaDoor
end

section
set_option linter.unusedVariables false
set_option linter.unusedSimpArgs false
set_option linter.unusedSectionVars false
set_option maxRecDepth 100000
namespace Go.Proofs.YtmjocdbdbofcbaaDoor
open Go AM

@[go_sem] theorem norm_rIn (n : Nat) : V.norm (rIn n) = rIn n := (rfl)
@[go_sem] theorem under_rIn {n m : Nat} (h : n < m) : V.under m (rIn n) = true := under_ref h ..
@[go_sem] theorem pl_vIn (s : List UInt8) (e : Nat) : (vIn s e).pl = true := (rfl)
def cz : Cmt := ⟨0, 0, z32, []⟩
theorem cz_ok : CmtOk cz := ⟨by simp [I64, cz], by simp [I64, cz], rfl, by simp [cz], by simp [cz]⟩

def hashesIn : Nat → List (List UInt8) → List UInt8 → Nat → List (List UInt8) × List UInt8 × Nat
  | 0, acc, s, e => (acc, s, e)
  | n + 1, acc, s, e => hashesIn n (acc ++ [(hashIn s e).1]) (hashIn s e).2.1 (hashIn s e).2.2
theorem hashIn_len (s : List UInt8) (e : Nat) : (hashIn s e).1.length = 32 ∧ (hashIn s e).2.1.length ≤ s.length := by
  simp only [hashIn]
  split
  · exact ⟨rfl, Nat.le_refl _⟩
  · split
    · exact ⟨rfl, Nat.le_refl _⟩
    · simp; omega
def endC (c : Cmt) (q : List (List UInt8) × List UInt8 × Nat) : Cmt × Nat :=
  if endIn q.2.1 q.2.2 = 0 then ({ c with bt := q.1 }, 0) else (cz, endIn q.2.1 q.2.2)
def getC1 (s : List UInt8) : Cmt × Nat :=
  let r1 := numIn s 0
  let r2 := numIn r1.2.1 r1.2.2
  let r3 := hashIn r2.2.1 r2.2.2
  let r4 := numIn r3.2.1 r3.2.2
  if r4.2.2 ≠ 0 then (cz, r4.2.2) else if r1.1 < 64 ∧ r2.1 < 64 ∧ 1 ≤ r4.1 ∧ r4.1 ≤ 64 then endC ⟨r1.1, r2.1, r3.1, []⟩ (hashesIn r4.1 [] r4.2.1 0) else (cz, 120)
def getC (s : List UInt8) : Cmt × Nat := if s.head? = some 67 then getC1 (s.drop 1) else (cz, 120)
def vGC (r : Cmt × Nat) : V := .tup [vC .sh r.1, .int .i64 (r.2 : Int)]

section
variable {a b c : V} {s : List UInt8} {e : Nat}
theorem Num_h2 (hl : s.length < 4611686018427387904) : Cl 35 [rIn 1] [a, vIn s e] = some (.int .u64 ((numIn s e).1 : Int), [a, vIn (numIn s e).2.1 (numIn s e).2.2]) := Num_am (h := [a, vIn s e]) (id := 1) rfl hl
theorem Hash_h2 : Cl 53 [rIn 1] [a, vIn s e] = some (A32 (hashIn s e).1, [a, vIn (hashIn s e).2.1 (hashIn s e).2.2]) := Hash_am (h := [a, vIn s e]) (id := 1) rfl
theorem Hash_h4 : Cl 53 [rIn 1] [a, vIn s e, b, c] = some (A32 (hashIn s e).1, [a, vIn (hashIn s e).2.1 (hashIn s e).2.2, b, c]) := Hash_am (h := [a, vIn s e, b, c]) (id := 1) rfl
theorem Err_h3 : Cl 36 [rIn 1] [a, vIn s e, b] = some (.int .i64 (e : Int), [a, vIn s e, b]) := Err_am (h := [a, vIn s e, b]) (id := 1) rfl
theorem End_h4 : Cl 39 [rIn 1] [a, vIn s e, b, c] = some (.int .i64 (endIn s e : Int), [a, vIn s e, b, c]) := End_am (h := [a, vIn s e, b, c]) (id := 1) rfl
theorem NewIn_h1 : Cl 34 [.str s] [a] = some (rIn 1, [a, vIn s 0]) := NewIn_am [a] s
theorem callH53 (ha : a.away 3 = true) (hb : b.away 3 = true) (k : V → List V → Rv) : callH P ann W (some (.ref 3 [] 41)) (.clo 53 []) [rIn 1] [a, vIn s e, b, c] k = k (A32 (hashIn s e).1) [a, vIn (hashIn s e).2.1 (hashIn s e).2.2, b, c] := by
  have w : ∀ s e, awayL 3 [a, vIn s e, b, void] = true := by
    intro s e
    simp only [awayL, ha, hb, (V.PF _ (pl_vIn s e)).away, Bool.true_and]; rfl
  simp only [callH, List.getElem?_cons_succ, List.getElem?_cons_zero, List.set_cons_succ, List.set_cons_zero, w]
  rw [if_pos (show (V.away 3 (.clo 53 []) && awayL 3 [rIn 1] && true) = true from rfl), callV_np _ (by kernel_rfl) (by kernel_rfl)]
  have e1 : normL ([rIn 1] ++ []) = [rIn 1] := rfl
  rw [e1]
  refine (bstep Hash_h4 _).trans ?_
  rw [if_pos (by rw [(V.PF _ (pl_A32 _)).away, w]; rfl)]; rfl
end
theorem ldTakeC {a b d : V} {f : Fl} {c : Cmt} (K : V × List V → Rv) : (ldTake [a, b, d, vC f c] 39 (.ref 3 [3] 39)).bind K = K (.lst 33 f (c.bt.map A32), [a, b, d, vC f.wk c]) := by
  have : ldTake [a, b, d, vC f c] 39 (.ref 3 [3] 39) = some (.lst 33 f (c.bt.map A32), [a, b, d, vC f.wk c]) := by
    simp only [ldTake, if_true, rd, wr, List.getElem?_cons_succ, List.getElem?_cons_zero, Option.bind_some, V.at, V.upd, weak_lst', Option.map_some, List.set_cons_succ, List.set_cons_zero]
  rw [this]; rfl
theorem cget_l0 {b : V} (hb : b.pl = true) (c : Cmt) (cnt : Nat) (hc : cnt ≤ 64) : ∀ (n i : Nat) (f : Fl) (bt : List (List UInt8)) (s : List UInt8) (e : Nat), i + n = cnt → bt.length = i → (f = .own ∨ f = .nil) →
    f26_l0 (.ref 0 [] 41) (rIn 1) (.ref 3 [] 41) (.int .u64 (cnt : Int)) (.int .u64 (i : Int)) [vC .nil cz, vIn s e, b, vC f { c with bt := bt }] =
      some (vGC (endC c (hashesIn n bt s e)), []) := by
  intro n
  induction n with
  | zero =>
    intro i f bt s e hi hb' hf
    rw [hashesIn, endC]
    by_cases he : endIn s e = 0
    · rw [if_pos he, vGC, f26_l0_eq, zero32']
      rcases hf with rfl | rfl
      · simp (disch := first | assumption | omega | (with_reducible rfl) | (simp only [go_sem]; done) | (simp only [go_sem]; omega) | fail) only [↓reduceIte, ↓jn_eq, Nat.reduceAdd, go_sem, End_h4, he]
        rfl
      · simp (disch := first | assumption | omega | (with_reducible rfl) | (simp only [go_sem]; done) | (simp only [go_sem]; omega) | fail) only [↓reduceIte, ↓jn_eq, Nat.reduceAdd, go_sem, End_h4, he]
        rfl
    · rw [if_neg he, vGC, f26_l0_eq, zero32']
      simp (disch := first | assumption | omega | (with_reducible rfl) | (simp only [go_sem]; done) | (simp only [go_sem]; omega) | fail) only [↓reduceIte, ↓jn_eq, Nat.reduceAdd, go_sem, End_h4, he]
      rfl
  | succ n ih =>
    intro i f bt s e hi hb' hf
    have hl := (hashIn_len s e).1
    have := ih (i + 1) .own (bt ++ [(hashIn s e).1]) (hashIn s e).2.1 (hashIn s e).2.2 (by omega) (by simp; omega) (Or.inl rfl)
    rw [hashesIn, ← this, f26_l0_eq]
    have sb : sameB (.ref 3 [] 41) (.ref 3 [3] 39) = true := rfl
    refine (bstep (show bin .lss (.int .u64 (i : Int)) (.int .u64 (cnt : Int)) = some (.bool true) by rw [b_lss, decide_eq_true (by omega)]) _).trans ?_
    rw [ite_T]
    refine (bstep (fA_ref ..) _).trans ?_
    refine (if_pos sb).trans ?_
    refine (ldTakeC _).trans ?_
    refine (callH53 rfl ((V.PF b hb).away 3) _).trans ?_
    have hv : vC .own { c with bt := bt ++ [(hashIn s e).1] } = .agg tCm [.int .i64 c.wk, .int .i64 c.st, A32 c.root, .lst 33 .own (bt.map A32 ++ [A32 (hashIn s e).1])] := by simp [vC]
    rw [hv]
    rcases hf with rfl | rfl
    · simp (disch := first | assumption | omega | (with_reducible rfl) | (simp only [go_sem]; done) | (simp only [go_sem]; omega) | fail) only [↓reduceIte, ↓jn_eq, Nat.reduceAdd, go_sem]
    · simp (disch := first | assumption | omega | (with_reducible rfl) | (simp only [go_sem]; done) | (simp only [go_sem]; omega) | fail) only [↓reduceIte, ↓jn_eq, Nat.reduceAdd, go_sem]
@[go_sem] theorem slT_1 {s : List UInt8} (h : 1 ≤ s.length) (k : IntKind) : slT (.str s) (some (.int k 1)) none = some (.str (s.drop 1)) := slT_lo h k
theorem ix67 {s : List UInt8} (h : s ≠ []) : ∃ y : Int, ixT (.str s) (.int .i64 0) = some (.int .u8 y) ∧ (y = 67 ↔ s.head? = some 67) := by
  cases s with
  | nil => exact absurd rfl h
  | cons x t =>
    refine ⟨x.toNat, by rw [ixT_0]; rfl, ?_⟩
    simp only [List.head?_cons, Option.some.injEq]
    constructor
    · intro h
      apply UInt8.toNat_inj.1
      show x.toNat = 67
      omega
    · intro h; rw [h]; decide
abbrev cmtZ : V := .agg tCm [.int .i64 0, .int .i64 0, A32 z32, .lst 33 .nil []]
set_option maxHeartbeats 2000000 in
theorem cGet_am {s : List UInt8} (hl : s.length < 1000000000) : Cl 26 [.str s] [] = some (vGC (getC s), []) := by
  rw [getC]
  by_cases hs : s = []
  · subst hs
    rw [if_neg (by simp), vGC, f26_eq, zero32']
    simp (disch := first | assumption | omega | (with_reducible rfl) | (simp only [go_sem]; done) | (simp only [go_sem]; omega) | fail) only [↓reduceIte, ↓jn_eq, Nat.reduceAdd, go_sem]
    rfl
  obtain ⟨y, h0, h1⟩ := ix67 hs
  have e1 : decide (s = []) = false := decide_eq_false hs
  have hd : 1 ≤ s.length := by cases s with
    | nil => exact absurd rfl hs
    | cons x t => simp
  by_cases hx : y = 67
  · subst hx
    rw [if_pos (h1.1 rfl), getC1]
    have ht : (s.drop 1).length < 1000000000 := by simp; omega
    generalize ht0 : s.drop 1 = t at *
    have l1 := numIn_len t 0
    have b1 := numIn_lt t 0
    generalize hr1 : numIn t 0 = r1 at *
    have l2 := numIn_len r1.2.1 r1.2.2
    have b2 := numIn_lt r1.2.1 r1.2.2
    generalize hr2 : numIn r1.2.1 r1.2.2 = r2 at *
    have l3 := (hashIn_len r2.2.1 r2.2.2)
    generalize hr3 : hashIn r2.2.1 r2.2.2 = r3 at *
    have b4 := numIn_lt r3.2.1 r3.2.2
    generalize hr4 : numIn r3.2.1 r3.2.2 = r4 at *
    have n1 := Num_h2 (a := cmtZ) (s := t) (e := 0) (by omega)
    have n2 := Num_h2 (a := cmtZ) (s := r1.2.1) (e := r1.2.2) (by omega)
    have n3 := Hash_h2 (a := cmtZ) (s := r2.2.1) (e := r2.2.2)
    have n4 := Num_h2 (a := cmtZ) (s := r3.2.1) (e := r3.2.2) (by omega)
    rw [hr1] at n1
    rw [hr2] at n2
    rw [hr3] at n3
    rw [hr4] at n4
    clear hr1 hr2 hr3 hr4 hs h1
    obtain ⟨r11, r12, r13⟩ := r1
    obtain ⟨r21, r22, r23⟩ := r2
    obtain ⟨r31, r32, r33⟩ := r3
    obtain ⟨r41, r42, r43⟩ := r4
    simp only [] at *
    have hl3 := l3.1
    by_cases he : r43 ≠ 0
    · rw [if_pos he, vGC, f26_eq, zero32']
      simp (disch := first | assumption | omega | (with_reducible rfl) | (simp only [go_sem]; done) | (simp only [go_sem]; omega) | fail) only [↓reduceIte, ↓jn_eq, Nat.reduceAdd, go_sem, NewIn_h1, n1, n2, n3, n4, Err_h3, e1, h0, ht0]
      rfl
    · rw [if_neg he]
      obtain rfl : r43 = 0 := by omega
      by_cases c1 : r11 < 64
      · by_cases c2 : r21 < 64
        · by_cases c3 : 1 ≤ r41
          · by_cases c4 : r41 ≤ 64
            · have hl := cget_l0 (b := A32 r31) (pl_A32 _) ⟨r11, r21, r31, []⟩ r41 c4 r41 0 .nil [] r42 0 (by omega) rfl (Or.inr rfl)
              simp only [c0, List.map_nil] at hl
              have w1 : (r11 : Int) < 9223372036854775808 := by omega
              have w2 : (r21 : Int) < 9223372036854775808 := by omega
              rw [if_pos ⟨c1, c2, c3, c4⟩, ← hl, f26_eq, zero32']
              simp (disch := first | assumption | omega | (with_reducible rfl) | (simp only [go_sem]; done) | (simp only [go_sem]; omega) | fail) only [↓reduceIte, ↓jn_eq, Nat.reduceAdd, go_sem, NewIn_h1, n1, n2, n3, n4, Err_h3, e1, h0, ht0, c0]
              rfl
            · rw [if_neg (fun h => c4 h.2.2.2), vGC, f26_eq, zero32']
              simp (disch := first | assumption | omega | (with_reducible rfl) | (simp only [go_sem]; done) | (simp only [go_sem]; omega) | fail) only [↓reduceIte, ↓jn_eq, Nat.reduceAdd, go_sem, NewIn_h1, n1, n2, n3, n4, Err_h3, e1, h0, ht0, c0]
              rfl
          · rw [if_neg (fun h => c3 h.2.2.1), vGC, f26_eq, zero32']
            simp (disch := first | assumption | omega | (with_reducible rfl) | (simp only [go_sem]; done) | (simp only [go_sem]; omega) | fail) only [↓reduceIte, ↓jn_eq, Nat.reduceAdd, go_sem, NewIn_h1, n1, n2, n3, n4, Err_h3, e1, h0, ht0, c0]
            rfl
        · rw [if_neg (fun h => c2 h.2.1), vGC, f26_eq, zero32']
          simp (disch := first | assumption | omega | (with_reducible rfl) | (simp only [go_sem]; done) | (simp only [go_sem]; omega) | fail) only [↓reduceIte, ↓jn_eq, Nat.reduceAdd, go_sem, NewIn_h1, n1, n2, n3, n4, Err_h3, e1, h0, ht0, c0]
          rfl
      · rw [if_neg (fun h => c1 h.1), vGC, f26_eq, zero32']
        simp (disch := first | assumption | omega | (with_reducible rfl) | (simp only [go_sem]; done) | (simp only [go_sem]; omega) | fail) only [↓reduceIte, ↓jn_eq, Nat.reduceAdd, go_sem, NewIn_h1, n1, n2, n3, n4, Err_h3, e1, h0, ht0, c0]
        rfl
  · rw [if_neg (fun h => hx (h1.2 h)), vGC, f26_eq, zero32']
    have en : decide (y ≠ 67) = true := decide_eq_true hx
    simp (disch := first | assumption | omega | (with_reducible rfl) | (simp only [go_sem]; done) | (simp only [go_sem]; omega) | fail) only [↓reduceIte, ↓jn_eq, Nat.reduceAdd, go_sem, e1, h0, en]
    rfl
end Go.Proofs.YtmjocdbdbofcbaaDoor
end

section
set_option linter.unusedVariables false
set_option linter.unusedSimpArgs false
set_option linter.unusedSectionVars false
set_option maxRecDepth 100000
namespace Go.Proofs.YtmjocdbdbofcbaaDoor
open Go AM

structure Vtx where
  id : Int
  val : Int
  act : Bool
  has : Bool
  inn : Int
  deriving DecidableEq
def VOk (x : Vtx) : Prop := I64 x.id ∧ I64 x.val ∧ I64 x.inn
abbrev tVx : TypeId := 118
def vVx (x : Vtx) : V := .agg tVx [.int .i64 x.id, .int .i64 x.val, .bool x.act, .bool x.has, .int .i64 x.inn]
@[go_sem] theorem pl_vVx (x : Vtx) : (vVx x).pl = true := (rfl)
@[go_sem] theorem plL_vxs (l : List Vtx) : plL (l.map vVx) = true := plL_map (fun _ => rfl) l
@[go_sem] theorem tyG_vVx (x : Vtx) : tyG tVx (vVx x) = true := tyG_g ..
@[go_sem] theorem tyA_vxs (l : List Vtx) : (l.map vVx).all (tyG tVx) = true := all_map (fun _ => tyG_g ..) l
theorem Vx_at {l : List Vtx} {i : Nat} (h : i < l.length) : (l.map vVx)[i]? = some (vVx l[i]) := by simp [h]

def greatB (n : Int) : Bool := decide (1125899906842624 < n) || decide (n < -1125899906842624)
theorem great_am (n : Int) : Cl 120 [.int .i64 n] [] = some (.bool (greatB n), []) := by
  rw [f120_eq, greatB]
  by_cases h : 1125899906842624 < n
  · simp (disch := first | assumption | omega | (with_reducible rfl) | (simp only [go_sem]; done) | (simp only [go_sem]; omega) | fail) only [↓reduceIte, ↓jn_eq, Nat.reduceAdd, go_sem]
    rw [decide_eq_true h]; rfl
  · simp (disch := first | assumption | omega | (with_reducible rfl) | (simp only [go_sem]; done) | (simp only [go_sem]; omega) | fail) only [↓reduceIte, ↓jn_eq, Nat.reduceAdd, go_sem]
    rw [decide_eq_false h]; rfl
def chkV (x : Vtx) : Bool := !(decide (x.id < 0) || decide (64 ≤ x.id) || greatB x.val || greatB x.inn || (!x.has && decide (x.inn ≠ 0)))
theorem CheckV_am (x : Vtx) : Cl 107 [vVx x] [] = some (.int .i64 (if chkV x = true then 0 else 100), []) := by
  by_cases h1 : x.id < 0
  · rw [show (if chkV x = true then (0 : Int) else 100) = 100 from if_neg (by simp [chkV, h1])]
    rw [f107_eq]
    simp only [vVx]
    simp (disch := first | assumption | omega | (with_reducible rfl) | (simp only [go_sem]; done) | (simp only [go_sem]; omega) | fail) only [↓reduceIte, ↓jn_eq, Nat.reduceAdd, go_sem]
  by_cases h2 : 64 ≤ x.id
  · rw [show (if chkV x = true then (0 : Int) else 100) = 100 from if_neg (by simp [chkV, h2])]
    rw [f107_eq]
    simp only [vVx]
    simp (disch := first | assumption | omega | (with_reducible rfl) | (simp only [go_sem]; done) | (simp only [go_sem]; omega) | fail) only [↓reduceIte, ↓jn_eq, Nat.reduceAdd, go_sem]
  by_cases h3 : greatB x.val = true
  · rw [show (if chkV x = true then (0 : Int) else 100) = 100 from if_neg (by simp [chkV, h3])]
    rw [f107_eq]
    simp only [vVx]
    simp (disch := first | assumption | omega | (with_reducible rfl) | (simp only [go_sem]; done) | (simp only [go_sem]; omega) | fail) only [↓reduceIte, ↓jn_eq, Nat.reduceAdd, go_sem, great_am, h3]
  by_cases h4 : greatB x.inn = true
  · rw [show (if chkV x = true then (0 : Int) else 100) = 100 from if_neg (by simp [chkV, h4])]
    rw [f107_eq]
    simp only [vVx]
    simp (disch := first | assumption | omega | (with_reducible rfl) | (simp only [go_sem]; done) | (simp only [go_sem]; omega) | fail) only [↓reduceIte, ↓jn_eq, Nat.reduceAdd, go_sem, great_am, h3, h4]
  simp only [Bool.not_eq_true] at h3 h4
  cases h5 : x.has
  · by_cases h6 : x.inn = 0
    · rw [show (if chkV x = true then (0 : Int) else 100) = 0 from if_pos (by simp only [chkV, h3, h4, h5, h6, decide_eq_false h1, decide_eq_false h2]; rfl)]
      rw [f107_eq]
      simp only [vVx]
      simp (disch := first | assumption | omega | (with_reducible rfl) | (simp only [go_sem]; done) | (simp only [go_sem]; omega) | fail) only [↓reduceIte, ↓jn_eq, Nat.reduceAdd, go_sem, great_am, h3, h4, h5]
    · rw [show (if chkV x = true then (0 : Int) else 100) = 100 from if_neg (by simp [chkV, h5, h6])]
      rw [f107_eq]
      simp only [vVx]
      simp (disch := first | assumption | omega | (with_reducible rfl) | (simp only [go_sem]; done) | (simp only [go_sem]; omega) | fail) only [↓reduceIte, ↓jn_eq, Nat.reduceAdd, go_sem, great_am, h3, h4, h5]
  · rw [show (if chkV x = true then (0 : Int) else 100) = 0 from if_pos (by simp [chkV, h1, h2, h3, h4, h5])]
    rw [f107_eq]
    simp only [vVx]
    simp (disch := first | assumption | omega | (with_reducible rfl) | (simp only [go_sem]; done) | (simp only [go_sem]; omega) | fail) only [↓reduceIte, ↓jn_eq, Nat.reduceAdd, go_sem, great_am, h3, h4, h5]
def bitN (b : Bool) : Nat := if b = true then 1 else 0
theorem bit_am (b : Bool) : Cl 108 [.bool b] [] = some (.int .u64 (bitN b : Int), []) := by
  rw [f108_eq]
  cases b <;> rfl
def vtxB (x : Vtx) : List UInt8 := if chkV x = true then numB x.id.toNat ++ numB (unz x.val) ++ numB (bitN x.act) ++ numB (bitN x.has) ++ numB (unz x.inn) else []
theorem OutInt_h {a : V} {f : Fl} {l : List UInt8} {n : Int} (hf : OK f) (h1 : I64 n) (hl : l.length ≤ 2000000000) : Cl 77 [rOut 1, .int .i64 n] [a, vOut f l] = some (.tup [], [a, vOut .own (l ++ numB (unz n))]) := OutInt_am (h := [a, vOut f l]) (id := 1) rfl hf h1.1 h1.2 (by omega)
theorem bitN_lt (b : Bool) : (bitN b : Int) < 18446744073709551616 := by cases b <;> decide
theorem vtxB_len (x : Vtx) : (vtxB x).length ≤ 50 := by
  have a := numBf_len 10 x.id.toNat; have b := numBf_len 10 (unz x.val); have c := numBf_len 10 (unz x.inn)
  have d := numBf_len 10 (bitN x.act); have e := numBf_len 10 (bitN x.has)
  simp only [vtxB]; split
  · simp only [List.length_append, numB]; omega
  · simp
theorem PutV_am {x : Vtx} (hx : VOk x) : Cl 87 [vVx x] [] = some (.str (vtxB x), []) := by
  obtain ⟨x1, x2, x3⟩ := hx
  have hc := CheckV_am x
  by_cases h : chkV x = true
  · have h0 : 0 ≤ x.id := by simp only [chkV, Bool.not_eq_true', Bool.or_eq_false_iff, decide_eq_false_iff_not] at h; omega
    have hlt : x.id < 18446744073709551616 := by have := x1.2; omega
    rw [if_pos h] at hc
    rw [vtxB, if_pos h, f87_eq]
    have a := numBf_len 10 x.id.toNat; have b := numBf_len 10 (unz x.val); have c := numBf_len 10 (unz x.inn)
    have d := numBf_len 10 (bitN x.act); have e := numBf_len 10 (bitN x.has)
    generalize ha : numB x.id.toNat = n1
    generalize hb : numB (unz x.val) = n2
    generalize hd : numB (bitN x.act) = n3
    generalize he : numB (bitN x.has) = n4
    have s1 : ∀ w : V, Cl 45 [rOut 1, .int .u64 x.id] [w, vOut .nil []] = _ := fun w => OutNum_h (a := w) (f := .nil) (l := []) OK_nil h0 hlt (by simp)
    rw [ha, List.nil_append] at s1
    have t1 : n1.length ≤ 10 := ha ▸ a
    have s2 : ∀ w : V, Cl 77 [rOut 1, .int .i64 x.val] [w, vOut .own n1] = _ := fun w => OutInt_h (a := w) OK_own x2 (by omega)
    rw [hb] at s2
    have t2 : n2.length ≤ 10 := hb ▸ b
    have s3 : ∀ w : V, Cl 45 [rOut 1, .int .u64 (bitN x.act : Int)] [w, vOut .own (n1 ++ n2)] = _ := fun w => OutNum_h (a := w) OK_own (by omega) (bitN_lt _) (by simp only [List.length_append]; omega)
    rw [Int.toNat_natCast, hd] at s3
    have t3 : n3.length ≤ 10 := hd ▸ d
    have s4 : ∀ w : V, Cl 45 [rOut 1, .int .u64 (bitN x.has : Int)] [w, vOut .own (n1 ++ n2 ++ n3)] = _ := fun w => OutNum_h (a := w) OK_own (by omega) (bitN_lt _) (by simp only [List.length_append]; omega)
    rw [Int.toNat_natCast, he] at s4
    have t4 : n4.length ≤ 10 := he ▸ e
    have s5 : ∀ w : V, Cl 77 [rOut 1, .int .i64 x.inn] [w, vOut .own (n1 ++ n2 ++ n3 ++ n4)] = _ := fun w => OutInt_h (a := w) OK_own x3 (by simp only [List.length_append]; omega)
    have hb1 : ∀ b, Cl 108 [.bool b] [] = _ := bit_am
    simp only [List.append_assoc] at s3 s4 s5 ⊢
    simp only [vVx] at hc ⊢
    simp (disch := first | assumption | omega | (with_reducible rfl) | (simp only [go_sem]; done) | (simp only [go_sem]; omega) | fail) only [↓reduceIte, ↓jn_eq, Nat.reduceAdd, go_sem, hc, NewOut_h, s1, s2, s3, s4, s5, hb1, OutDone_h]
  · rw [if_neg h] at hc
    rw [vtxB, if_neg h, f87_eq]
    simp only [vVx] at hc ⊢
    simp (disch := first | assumption | omega | (with_reducible rfl) | (simp only [go_sem]; done) | (simp only [go_sem]; omega) | fail) only [↓reduceIte, ↓jn_eq, Nat.reduceAdd, go_sem, hc]

/-! ### rows and roots of vertices -/
abbrev winS (n : Nat) : V := .win 0 [] 0 n 9
abbrev rowS (d : List (List UInt8)) : V := .row 9 (d.map V.str)
theorem under_vxs (n : Nat) (f : Fl) (l : List Vtx) : V.under n (.lst 119 f (l.map vVx)) = true := by
  have := (V.PF (.agg 0 (l.map vVx)) (plL_vxs l)).under n
  cases f <;> first | rfl | exact this
theorem rowsV_l0 {l : List Vtx} (hl : ∀ x ∈ l, VOk x) (hn : l.length ≤ 1000000) (f : Fl) : ∀ (n i : Nat) (d : List (List UInt8)), i + n = l.length → d.length = l.length →
    f73_l0 (winS l.length) (.lst 119 f (l.map vVx)) (.int .i64 (l.length : Int)) (.int .i64 (i : Int)) [rowS d] = some (.lst 9 .sh ((d.take i ++ (l.drop i).map vtxB).map V.str), []) := by
  intro n
  induction n with
  | zero =>
    intro i d hi hd
    have e1 : l.drop i = [] := List.drop_eq_nil_of_le (by omega)
    rw [e1, List.map_nil, List.append_nil, List.take_of_length_le (by omega), f73_l0_eq]
    have c : content [rowS d] (winS l.length) = some (d.map V.str) := by
      simp only [content, rd, List.getElem?_cons_zero, Option.bind_some, V.at, V.items, List.drop_zero]
      simp only [V.items, Option.map_some, Option.bind_some]
      rw [← hd]; exact congrArg some (List.take_of_length_le (by simp))
    have fin : finT 0 [rowS d] (winS l.length) = some (.lst 9 .sh (d.map V.str), []) := by
      have cl : cleanL (d.map V.str) = true := by
        clear c hd; induction d with
        | nil => rfl
        | cons x t ih => simp only [List.map_cons, cleanL, ih]; rfl
      have nl : normL (d.map V.str) = d.map V.str := by
        clear c hd cl; induction d with
        | nil => rfl
        | cons x t ih => simp only [List.map_cons, normL, ih]; rfl
      simp only [finT, V.unmut, c, cl, nl, if_true]
      rfl
    simp (disch := first | assumption | omega | (with_reducible rfl) | (simp only [go_sem]; done) | (simp only [go_sem]; omega) | fail) only [↓reduceIte, ↓jn_eq, Nat.reduceAdd, go_sem, fin]
  | succ n ih =>
    intro i d hi hd
    have h : i < l.length := by omega
    have hx := hl _ (List.getElem_mem h)
    have hr := PutV_am hx
    have := ih (i + 1) (d.set i (vtxB l[i])) (by omega) (by simp [hd])
    have e : (d.set i (vtxB l[i])).take (i + 1) ++ (l.drop (i + 1)).map vtxB = d.take i ++ (l.drop i).map vtxB := by
      rw [List.drop_eq_getElem_cons h, List.map_cons, List.take_add_one, List.take_set_of_le (by omega), List.getElem?_set_self (by omega)]
      simp
    rw [e] at this
    rw [← this, f73_l0_eq]
    have ix : ixS 9 (V.weak (winS l.length)) (.int .i64 (i : Int)) = some (.ref 0 [i] 9) := by
      simp only [V.weak, ixS, inside]
      simp; omega
    have hu := under_vxs 1 f l
    rw [rowS, rowS, List.map_set]
    simp (disch := first | assumption | omega | (with_reducible rfl) | (simp only [go_sem]; done) | (simp only [go_sem]; omega) | fail) only [↓reduceIte, ↓jn_eq, Nat.reduceAdd, go_sem, Vx_at h, hr, ix, hu]
theorem RowsV_am {l : List Vtx} (hl : ∀ x ∈ l, VOk x) (hn : l.length ≤ 1000000) (f : Fl) : Cl 73 [.lst 119 f (l.map vVx)] [] = some (.lst 9 .sh ((l.map vtxB).map V.str), []) := by
  have h := rowsV_l0 hl hn f l.length 0 (List.replicate l.length []) (by omega) (by simp)
  rw [List.take_zero, List.nil_append, List.drop_zero] at h
  simp only [c0] at h
  have mk : mkL 9 (.str []) (.int .i64 (l.length : Int)) (.int .i64 (l.length : Int)) = some (.lst 9 .own (List.replicate l.length (.str []))) := by
    simp only [mkL]
    rw [if_pos ⟨by omega, by omega, by omega⟩]; rfl
  have tb : toBox [] (.lst 9 .own (List.replicate l.length (.str []))) = some (winS l.length, [rowS (List.replicate l.length [])]) := by
    simp [toBox]
  rw [← h, f73_eq]
  simp (disch := first | assumption | omega | (with_reducible rfl) | (simp only [go_sem]; done) | (simp only [go_sem]; omega) | fail) only [↓reduceIte, ↓jn_eq, Nat.reduceAdd, go_sem, mk, tb]
theorem shortV (l : List Vtx) : Short (l.map vtxB) := by
  intro s hs
  obtain ⟨x, _, rfl⟩ := List.mem_map.1 hs
  have := vtxB_len x; omega
def vrootB (l : List Vtx) : List UInt8 := treeB (l.map vtxB)
theorem VRoot_am {l : List Vtx} (hl : ∀ x ∈ l, VOk x) (hn : l.length ≤ 1000000) (f : Fl) : Cl 55 [.lst 119 f (l.map vVx)] [] = some (A32 (vrootB l), []) := by
  have h := RowsV_am hl hn
  rw [f55_eq, zero32]
  simp (disch := first | assumption | omega | (with_reducible rfl) | (simp only [go_sem]; done) | (simp only [go_sem]; omega) | fail) only [↓reduceIte, ↓jn_eq, Nat.reduceAdd, go_sem, h, Root_am (l := l.map vtxB) (by simp; omega) (shortV l)]
  rfl
end Go.Proofs.YtmjocdbdbofcbaaDoor
end

section
set_option linter.unusedVariables false
set_option linter.unusedSimpArgs false
set_option linter.unusedSectionVars false
set_option maxRecDepth 100000
namespace Go.Proofs.YtmjocdbdbofcbaaDoor
open Go AM

def mB (l : List Msg) : V := .lst 38 .sh (l.map vMsg)
abbrev vBs (f : Fl) (L : List (List Msg)) : V := .lst 23 f (L.map mB)
def BsOk (L : List (List Msg)) : Prop := (∀ l ∈ L, (∀ m ∈ l, MOk m) ∧ l.length ≤ 1000000) ∧ L.length ≤ 1000
theorem mB_at {L : List (List Msg)} {i : Nat} (h : i < L.length) : (L.map mB)[i]? = some (mB L[i]) := by simp [h]
@[go_sem] theorem weak_mB (l : List Msg) : (mB l).weak = mB l := (rfl)
@[go_sem] theorem norm_mB (l : List Msg) : (mB l).norm = mB l := (rfl)
theorem broot_len (l : List Msg) : (brootB l).length = 32 := rootB_len _ _
theorem vroot_len (l : List Vtx) : (vrootB l).length = 32 := rootB_len _ _
attribute [local irreducible] brootB vrootB
theorem BRoot_m {l : List Msg} (hl : ∀ m ∈ l, MOk m) (hn : l.length ≤ 1000000) : Cl 19 [mB l] [] = some (A32 (brootB l), []) := BRoot_am hl hn
theorem callH19 {a : V} (ha : a.away 1 = true) {f : Fl} {c : Cmt} {l : List Msg} (hl : ∀ m ∈ l, MOk m) (hn : l.length ≤ 1000000) (k : V → List V → Rv) :
    callH P ann W (some (.ref 1 [] 41)) (.clo 19 []) [mB l] [a, vC f c] k = k (A32 (brootB l)) [a, vC f c] := by
  have w : awayL 1 [a, void] = true := by simp only [awayL, ha, Bool.true_and]; rfl
  simp only [callH, List.getElem?_cons_succ, List.getElem?_cons_zero, List.set_cons_succ, List.set_cons_zero, w]
  rw [if_pos (show (V.away 1 (.clo 19 []) && awayL 1 [mB l] && true) = true from rfl), callV_p _ (by kernel_rfl) (by kernel_rfl)]
  have e1 : reifyL [a, void] ([mB l] ++ []) = [mB l] := rfl
  rw [e1]
  refine (bstep (BRoot_m hl hn) _).trans ?_
  rw [if_pos (by rw [(V.PF _ (pl_A32 _)).away, w]; rfl)]; rfl
def mkC (w st : Int) (l : List Vtx) (L : List (List Msg)) : Cmt := ⟨w, st, vrootB l, L.map brootB⟩
theorem ldTake1 {a : V} {f : Fl} {c : Cmt} (K : V × List V → Rv) : (ldTake [a, vC f c] 39 (.ref 1 [3] 39)).bind K = K (.lst 33 f (c.bt.map A32), [a, vC f.wk c]) := by
  have : ldTake [a, vC f c] 39 (.ref 1 [3] 39) = some (.lst 33 f (c.bt.map A32), [a, vC f.wk c]) := by
    simp only [ldTake, if_true, rd, wr, List.getElem?_cons_succ, List.getElem?_cons_zero, Option.bind_some, V.at, V.upd, weak_lst', Option.map_some, List.set_cons_succ, List.set_cons_zero]
  rw [this]; rfl
def okR (c : Cmt) : Cmt × Nat := if rightC c = true then (c, 0) else (cz, 120)
theorem make_l0 {w st : Int} {r : List UInt8} (hw : I64 w) (hs : I64 st) (hr : r.length = 32) {L : List (List Msg)} (hL : BsOk L) : ∀ (n i : Nat) (f : Fl) (bt : List (List UInt8)), i + n = L.length → bt.length = i → (∀ h ∈ bt, h.length = 32) → (f = .own ∨ f = .nil) →
    f30_l0 (.ref 0 [] 41) (.ref 1 [] 41) (vBs .sh L) (.int .i64 (L.length : Int)) (.int .i64 (i : Int)) [vC .nil cz, vC f ⟨w, st, r, bt⟩] =
      some (vGC (okR ⟨w, st, r, bt ++ (L.drop i).map brootB⟩), []) := by
  have h1000 := hL.2
  intro n
  induction n with
  | zero =>
    intro i f bt hi hb hbt hf
    rw [List.drop_eq_nil_of_le (by omega), List.map_nil, List.append_nil]
    have hok : CmtOk ⟨w, st, r, bt⟩ := by
      simp only [CmtOk]
      exact ⟨hw, hs, hr, hbt, by omega⟩
    have hr := right_am hok
    rw [okR, vGC]
    generalize Cmt.mk w st r bt = c at *
    by_cases hc : rightC c = true
    · rw [if_pos hc, f30_l0_eq, zero32']
      rcases hf with rfl | rfl
      · simp (disch := first | assumption | omega | (with_reducible rfl) | (simp only [go_sem]; done) | (simp only [go_sem]; omega) | fail) only [↓reduceIte, ↓jn_eq, Nat.reduceAdd, go_sem, hr, hc]
        rfl
      · simp (disch := first | assumption | omega | (with_reducible rfl) | (simp only [go_sem]; done) | (simp only [go_sem]; omega) | fail) only [↓reduceIte, ↓jn_eq, Nat.reduceAdd, go_sem, hr, hc]
        rfl
    · rw [if_neg hc, f30_l0_eq, zero32']
      rcases hf with rfl | rfl
      · simp (disch := first | assumption | omega | (with_reducible rfl) | (simp only [go_sem]; done) | (simp only [go_sem]; omega) | fail) only [↓reduceIte, ↓jn_eq, Nat.reduceAdd, go_sem, hr, hc]
        rfl
      · simp (disch := first | assumption | omega | (with_reducible rfl) | (simp only [go_sem]; done) | (simp only [go_sem]; omega) | fail) only [↓reduceIte, ↓jn_eq, Nat.reduceAdd, go_sem, hr, hc]
        rfl
  | succ n ih =>
    intro i f bt hi hb hbt hf
    have h : i < L.length := by omega
    obtain ⟨m1, m2⟩ := hL.1 _ (List.getElem_mem h)
    have hbl := broot_len L[i]
    have := ih (i + 1) .own (bt ++ [brootB L[i]]) (by omega) (by simp; omega) (by
      intro x hx
      rcases List.mem_append.1 hx with hx | hx
      · exact hbt x hx
      · rw [List.mem_singleton.1 hx]; exact hbl) (Or.inl rfl)
    have e : bt ++ [brootB L[i]] ++ (L.drop (i + 1)).map brootB = bt ++ (L.drop i).map brootB := by
      rw [List.drop_eq_getElem_cons h, List.map_cons, List.append_assoc]; rfl
    rw [e] at this
    rw [← this, f30_l0_eq]
    have sb : sameB (.ref 1 [] 41) (.ref 1 [3] 39) = true := rfl
    have hv : vC .own ⟨w, st, r, bt ++ [brootB L[i]]⟩ = .agg tCm [.int .i64 w, .int .i64 st, A32 r, .lst 33 .own (bt.map A32 ++ [A32 (brootB L[i])])] := by simp [vC]
    rw [hv]
    have hx := mB_at h
    refine (bstep (show bin .lss (.int .i64 (i : Int)) (.int .i64 (L.length : Int)) = some (.bool true) by rw [b_lss, decide_eq_true (by omega)]) _).trans ?_
    rw [ite_T]
    have ix : ixS 23 (vBs .sh L) (.int .i64 (i : Int)) = some (.rop 23 (mB L[i])) := by rw [ixS_l, hx]; rfl
    refine (bstep ix _).trans ?_
    refine (bstep (show ldS _ 23 (.rop 23 (mB L[i])) = some (mB L[i]) from rfl) _).trans ?_
    refine (bstep (fA_ref ..) _).trans ?_
    refine (if_pos sb).trans ?_
    refine (ldTake1 _).trans ?_
    refine (callH19 rfl m1 m2 _).trans ?_
    rcases hf with rfl | rfl
    · simp (disch := first | assumption | omega | (with_reducible rfl) | (simp only [go_sem]; done) | (simp only [go_sem]; omega) | fail) only [↓reduceIte, ↓jn_eq, Nat.reduceAdd, go_sem]
    · simp (disch := first | assumption | omega | (with_reducible rfl) | (simp only [go_sem]; done) | (simp only [go_sem]; omega) | fail) only [↓reduceIte, ↓jn_eq, Nat.reduceAdd, go_sem]
theorem make_am {w st : Int} (hw : I64 w) (hs : I64 st) {l : List Vtx} (hl : ∀ x ∈ l, VOk x) (hn : l.length ≤ 1000000) {L : List (List Msg)} (hL : BsOk L) :
    Cl 30 [.int .i64 w, .int .i64 st, .lst 119 .sh (l.map vVx), vBs .sh L] [] = some (vGC (okR (mkC w st l L)), []) := by
  have h1000 := hL.2
  have hv := VRoot_am hl hn
  have h := make_l0 hw hs (vroot_len l) hL L.length 0 .nil [] (by omega) rfl (by simp) (Or.inr rfl)
  have hrl := vroot_len l
  rw [List.nil_append, List.drop_zero] at h
  simp only [c0, List.map_nil] at h
  rw [mkC, ← h, f30_eq, zero32']
  generalize vrootB l = r at *
  simp (disch := first | assumption | omega | (with_reducible rfl) | (simp only [go_sem]; done) | (simp only [go_sem]; omega) | fail) only [↓reduceIte, ↓jn_eq, Nat.reduceAdd, go_sem, hv, pl_A32, plL_vxs]
  rfl

/-! ### Keeps -/
theorem keeps_l0 {c : Cmt} (hc : CmtOk c) {L : List (List Msg)} (hL : BsOk L) (hlen : c.bt.length = L.length) : ∀ (n i : Nat), i + n = L.length →
    f31_l0 (.ref 0 [] 41) (vBs .sh L) (.int .i64 (L.length : Int)) (.int .i64 (i : Int)) [vC .sh c] = some (.bool (decide (c.bt.drop i = (L.drop i).map brootB)), []) := by
  have h1000 := hL.2
  intro n
  induction n with
  | zero =>
    intro i hi
    have e : decide (c.bt.drop i = (L.drop i).map brootB) = true := decide_eq_true (by rw [List.drop_eq_nil_of_le (by omega), List.drop_eq_nil_of_le (by omega)]; rfl)
    rw [e, f31_l0_eq]
    simp (disch := first | assumption | omega | (with_reducible rfl) | (simp only [go_sem]; done) | (simp only [go_sem]; omega) | fail) only [↓reduceIte, ↓jn_eq, Nat.reduceAdd, go_sem]
  | succ n ih =>
    intro i hi
    have h : i < L.length := by omega
    have h2 : i < c.bt.length := by omega
    obtain ⟨m1, m2⟩ := hL.1 _ (List.getElem_mem h)
    have x1 := hc.2.2.2.1 _ (List.getElem_mem h2)
    have hbl := broot_len L[i]
    have hi' := ih (i + 1) (by omega)
    have hb := BRoot_m m1 m2
    have ix : ixS 23 (vBs .sh L) (.int .i64 (i : Int)) = some (.rop 23 (mB L[i])) := by rw [ixS_l, mB_at h]; rfl
    have ld : ∀ h, ldS h 23 (.rop 23 (mB L[i])) = some (mB L[i]) := fun _ => rfl
    have rf : ∀ h, reifyL h [mB L[i]] = [mB L[i]] := fun _ => rfl
    rw [List.drop_eq_getElem_cons h, List.drop_eq_getElem_cons h2, List.map_cons]
    by_cases he : c.bt[i] = brootB L[i]
    · have e : decide (c.bt[i] :: c.bt.drop (i + 1) = brootB L[i] :: (L.drop (i + 1)).map brootB) = decide (c.bt.drop (i + 1) = (L.drop (i + 1)).map brootB) := decide_eq_decide.2 ⟨fun e => (List.cons.inj e).2, fun e => by rw [he, e]⟩
      rw [e, ← hi', f31_l0_eq]
      generalize brootB L[i] = y at *
      simp (disch := first | assumption | omega | (with_reducible rfl) | (simp only [go_sem]; done) | (simp only [go_sem]; omega) | fail) only [↓reduceIte, ↓jn_eq, Nat.reduceAdd, go_sem, ix, ld, rf, hb, A32_at h2, neA x1 hbl]
    · rw [decide_eq_false (fun e => he (List.cons.inj e).1), f31_l0_eq]
      generalize brootB L[i] = y at *
      simp (disch := first | assumption | omega | (with_reducible rfl) | (simp only [go_sem]; done) | (simp only [go_sem]; omega) | fail) only [↓reduceIte, ↓jn_eq, Nat.reduceAdd, go_sem, ix, ld, rf, hb, A32_at h2, neA x1 hbl]
def keepsB (c : Cmt) (l : List Vtx) (L : List (List Msg)) : Bool := decide (c.root = vrootB l ∧ c.bt = L.map brootB)
theorem keeps_am {c : Cmt} (hc : CmtOk c) {l : List Vtx} (hl : ∀ x ∈ l, VOk x) (hn : l.length ≤ 1000000) {L : List (List Msg)} (hL : BsOk L) :
    Cl 31 [vC .sh c, .lst 119 .sh (l.map vVx), vBs .sh L] [] = some (.bool (keepsB c l L), []) := by
  have h1000 := hL.2
  have hb0 := hc.2.2.2.2
  have hv := VRoot_am hl hn
  have hrl := vroot_len l
  have x1 := hc.2.2.1
  by_cases h1 : c.root = vrootB l
  · by_cases h2 : c.bt.length = L.length
    · have e : keepsB c l L = decide (c.bt = L.map brootB) := decide_eq_decide.2 (by simp [h1])
      have h := keeps_l0 hc hL h2 L.length 0 (by omega)
      simp only [c0, List.drop_zero] at h
      rw [e, ← h, f31_eq]
      generalize vrootB l = r at *
      simp (disch := first | assumption | omega | (with_reducible rfl) | (simp only [go_sem]; done) | (simp only [go_sem]; omega) | fail) only [↓reduceIte, ↓jn_eq, Nat.reduceAdd, go_sem, hv, neA x1 hrl]
    · have e : keepsB c l L = false := decide_eq_false (fun e => h2 (by rw [e.2]; simp))
      rw [e, f31_eq]
      generalize vrootB l = r at *
      simp (disch := first | assumption | omega | (with_reducible rfl) | (simp only [go_sem]; done) | (simp only [go_sem]; omega) | fail) only [↓reduceIte, ↓jn_eq, Nat.reduceAdd, go_sem, hv, neA x1 hrl]
  · have e : keepsB c l L = false := decide_eq_false (fun e => h1 e.1)
    rw [e, f31_eq]
    generalize vrootB l = r at *
    simp (disch := first | assumption | omega | (with_reducible rfl) | (simp only [go_sem]; done) | (simp only [go_sem]; omega) | fail) only [↓reduceIte, ↓jn_eq, Nat.reduceAdd, go_sem, hv, neA x1 hrl]
end Go.Proofs.YtmjocdbdbofcbaaDoor
end

section
set_option linter.unusedVariables false
set_option linter.unusedSimpArgs false
set_option linter.unusedSectionVars false
set_option maxRecDepth 100000
namespace Go.Proofs.YtmjocdbdbofcbaaDoor
open Go AM

/-! ### what is read has just one text -/
theorem numL_dec : ∀ (cs : List UInt8) (k v n l : Nat), k ≤ 9 → numL k v cs = (n, l, 0) → ∃ x, n = v + x * 128 ^ k ∧ (0 < k → 0 < x) ∧ x < 128 ^ (10 - k) ∧ cs = numBf (10 - k) x ++ cs.drop (l - k) ∧ k < l := by
  intro cs
  induction cs with
  | nil => intro k v n l _ h; simp [numL] at h
  | cons c cs ih =>
    intro k v n l h9 h
    have hc : c.toNat < 256 := c.toNat_lt
    rw [numL] at h
    split at h
    · simp at h
    rename_i hb
    have ek : 10 - k = (9 - k) + 1 := by omega
    split at h
    · rename_i h1
      simp only [Prod.mk.injEq, and_true] at h
      obtain ⟨rfl, rfl⟩ := h
      refine ⟨c.toNat, by rw [Nat.mod_eq_of_lt h1], fun h0 => ?_, ?_, ?_, by omega⟩
      · rcases Nat.eq_zero_or_pos c.toNat with h | h
        · exact absurd (Or.inr ⟨h0, h⟩) hb
        · exact h
      · rw [ek, Nat.pow_succ]
        have : 1 ≤ 128 ^ (9 - k) := Nat.one_le_pow _ _ (by omega)
        omega
      · rw [ek, numBf, if_pos h1]
        have e : k + 1 - k = 1 := by omega
        rw [e]; simp
    · rename_i h1
      have k8 : k ≤ 8 := by
        rcases Nat.lt_or_ge k 9 with h | h
        · omega
        · exact absurd (Or.inl ⟨by omega, by omega⟩) hb
      obtain ⟨x, e1, e2, e3, e4, e5⟩ := ih (k + 1) _ n l (by omega) h
      have ex : 10 - (k + 1) = 9 - k := by omega
      rw [ex] at e3 e4
      have x0 := e2 (by omega)
      refine ⟨c.toNat % 128 + x * 128, ?_, fun _ => by omega, ?_, ?_, by omega⟩
      · rw [e1, Nat.pow_succ, Nat.add_mul, Nat.mul_assoc, Nat.mul_comm (128 ^ k) 128, Nat.add_assoc]
      · rw [ek, Nat.pow_succ]
        have : c.toNat % 128 < 128 := Nat.mod_lt _ (by omega)
        have : x + 1 ≤ 128 ^ (9 - k) := e3
        omega
      · have a1 : ¬ c.toNat % 128 + x * 128 < 128 := by omega
        have a2 : (c.toNat % 128 + x * 128) % 128 = c.toNat % 128 := by omega
        have a3 : (c.toNat % 128 + x * 128) / 128 = x := by omega
        have a4 : UInt8.ofNat (c.toNat % 128 + 128) = c := by
          have : c.toNat % 128 + 128 = c.toNat := by omega
          rw [this]; exact UInt8.ofNat_toNat
        rw [ek, numBf, if_neg a1, a2, a3, a4]
        have e : l - k = (l - (k + 1)) + 1 := by omega
        rw [e, List.drop_succ_cons, List.cons_append, ← e4]
theorem numL_dec0 {s : List UInt8} {n l : Nat} (h : numL 0 0 s = (n, l, 0)) : s = numB n ++ s.drop l := by
  obtain ⟨x, e1, _, _, e4, _⟩ := numL_dec s 0 0 n l (by omega) h
  have : n = x := by omega
  subst this
  exact e4
theorem numIn_dec {s r : List UInt8} {n : Nat} (h : numIn s 0 = (n, r, 0)) : s = numB n ++ r := by
  obtain ⟨a, b, c, h1⟩ : ∃ a b c, numL 0 0 s = (a, b, c) := ⟨_, _, _, rfl⟩
  rw [numIn_z s h1] at h
  simp only [Prod.mk.injEq] at h
  obtain ⟨rfl, h2, rfl⟩ := h
  rw [if_pos rfl] at h2
  subst h2
  exact numL_dec0 h1
/-! ### the two readers -/
end Go.Proofs.YtmjocdbdbofcbaaDoor
end

section
set_option linter.unusedVariables false
set_option linter.unusedSimpArgs false
set_option linter.unusedSectionVars false
set_option maxRecDepth 100000
namespace Go.Proofs.YtmjocdbdbofcbaaDoor
open Go AM

theorem hashIn_enc {x : List UInt8} (hx : x.length = 32) (rest : List UInt8) : hashIn (x ++ rest) 0 = (x, rest, 0) := by
  rw [hashIn, if_neg (by simp), if_neg (by simp; omega), ← hx, List.take_left, List.drop_left]
theorem hashesIn_enc : ∀ (bt acc : List (List UInt8)) (rest : List UInt8), (∀ h ∈ bt, h.length = 32) → hashesIn bt.length acc (bt.flatten ++ rest) 0 = (acc ++ bt, rest, 0)
  | [], acc, rest, _ => by simp [hashesIn]
  | x :: bt, acc, rest, h => by
    have := hashesIn_enc bt (acc ++ [x]) rest (fun y hy => h y (List.mem_cons_of_mem _ hy))
    rw [List.length_cons, hashesIn, List.flatten_cons, List.append_assoc, hashIn_enc (h x List.mem_cons_self)]
    simp only []
    rw [this, List.append_assoc]; rfl
theorem getC_app {c : Cmt} (hc : CmtOk c) (hr : rightC c = true) (rest : List UInt8) : getC (putCB c ++ rest) = if rest = [] then (c, 0) else (cz, 22) := by
  obtain ⟨h1, h2, h3, h4, h5⟩ := hc
  simp only [rightC, inR, Bool.and_eq_true, decide_eq_true_eq] at hr
  obtain ⟨⟨⟨a1, a2⟩, a3, a4⟩, a5, a6⟩ := hr
  have e : putCB c ++ rest = 67 :: (numB c.wk.toNat ++ (numB c.st.toNat ++ (c.root ++ (numB c.bt.length ++ (c.bt.flatten ++ rest))))) := by simp [putCB, cmtB]
  rw [e, getC, List.head?_cons, if_pos rfl, List.drop_succ_cons, List.drop_zero, getC1, numIn_enc (by omega)]
  simp only []
  rw [numIn_enc (by omega)]
  simp only []
  rw [hashIn_enc h3]
  simp only []
  rw [numIn_enc (by omega)]
  simp only []
  rw [if_neg (by simp), if_pos ⟨by omega, by omega, by omega, by omega⟩, hashesIn_enc _ _ _ h4, List.nil_append, endC]
  have ec : ({ wk := (c.wk.toNat : Int), st := (c.st.toNat : Int), root := c.root, bt := c.bt } : Cmt) = c := by
    rw [show (c.wk.toNat : Int) = c.wk by omega, show (c.st.toNat : Int) = c.st by omega]
  by_cases hs : rest = []
  · subst hs
    have : endIn [] 0 = 0 := rfl
    rw [this, if_pos rfl, if_pos rfl]
    simp only []
    rw [ec]
  · have : endIn rest 0 = 22 := by simp [endIn, hs]
    rw [if_neg hs, this]; rfl
theorem getC_put {c : Cmt} (hc : CmtOk c) (hr : rightC c = true) : getC (putCB c) = (c, 0) := by
  have := getC_app hc hr []
  rwa [List.append_nil, if_pos rfl] at this
theorem hashIn_dec {s : List UInt8} {e : Nat} (h : (hashIn s e).2.2 = 0) : e = 0 ∧ s = (hashIn s e).1 ++ (hashIn s e).2.1 := by
  by_cases he : e = 0
  · refine ⟨he, ?_⟩
    subst he
    simp only [hashIn, ne_eq, not_true_eq_false, if_false] at h ⊢
    split at h
    · cases h
    · rename_i hl
      rw [if_neg hl]
      exact (List.take_append_drop ..).symm
  · simp only [hashIn, ne_eq, he, not_false_eq_true, if_true] at h
theorem hashesIn_dec : ∀ (n : Nat) (acc : List (List UInt8)) (s : List UInt8) (e : Nat), (hashesIn n acc s e).2.2 = 0 → e = 0 ∧ ∃ bt, (hashesIn n acc s e).1 = acc ++ bt ∧ s = bt.flatten ++ (hashesIn n acc s e).2.1 ∧ (∀ h ∈ bt, h.length = 32) ∧ bt.length = n
  | 0, acc, s, e, h => ⟨h, [], by simp [hashesIn]⟩
  | n + 1, acc, s, e, h => by
    rw [hashesIn] at h ⊢
    obtain ⟨e1, bt, b1, b2, b3, b4⟩ := hashesIn_dec n _ _ _ h
    obtain ⟨e2, e3⟩ := hashIn_dec e1
    have hl := (hashIn_len s e).1
    generalize hashesIn n (acc ++ [(hashIn s e).1]) (hashIn s e).2.1 (hashIn s e).2.2 = q at *
    generalize hashIn s e = p at *
    refine ⟨e2, p.1 :: bt, by rw [b1, List.append_assoc]; rfl, ?_, ?_, by simp [b4]⟩
    · rw [List.flatten_cons, List.append_assoc, ← b2]; exact e3
    · intro y hy
      rcases List.mem_cons.1 hy with rfl | hy
      · exact hl
      · exact b3 y hy
theorem numIn_dec' {s : List UInt8} {e : Nat} (h : (numIn s e).2.2 = 0) : e = 0 ∧ s = numB (numIn s e).1 ++ (numIn s e).2.1 := by
  by_cases he : e = 0
  · subst he
    refine ⟨rfl, numIn_dec ?_⟩
    generalize numIn s 0 = r at *
    obtain ⟨a, b, c⟩ := r
    simp only [] at h ⊢
    rw [h]
  · rw [numIn_s _ he] at h
    exact absurd h he
theorem getC_dec {s : List UInt8} (h : (getC s).2 = 0) : s = putCB (getC s).1 ∧ rightC (getC s).1 = true ∧ CmtOk (getC s).1 := by
  rw [getC] at h ⊢
  split at h
  · rename_i h67
    rw [if_pos h67]
    have es : s = 67 :: s.drop 1 := by
      cases s with
      | nil => simp at h67
      | cons x t => simp at h67; simp [h67]
    generalize s.drop 1 = t at *
    subst es
    rw [getC1] at h ⊢
    have d4 := @numIn_dec' (hashIn (numIn (numIn t 0).2.1 (numIn t 0).2.2).2.1 (numIn (numIn t 0).2.1 (numIn t 0).2.2).2.2).2.1 (hashIn (numIn (numIn t 0).2.1 (numIn t 0).2.2).2.1 (numIn (numIn t 0).2.1 (numIn t 0).2.2).2.2).2.2
    have d3 := @hashIn_dec (numIn (numIn t 0).2.1 (numIn t 0).2.2).2.1 (numIn (numIn t 0).2.1 (numIn t 0).2.2).2.2
    have l3 := (hashIn_len (numIn (numIn t 0).2.1 (numIn t 0).2.2).2.1 (numIn (numIn t 0).2.1 (numIn t 0).2.2).2.2).1
    have d2 := @numIn_dec' (numIn t 0).2.1 (numIn t 0).2.2
    have d1 := @numIn_dec' t 0
    generalize numIn t 0 = r1 at *
    generalize numIn r1.2.1 r1.2.2 = r2 at *
    generalize hashIn r2.2.1 r2.2.2 = r3 at *
    generalize numIn r3.2.1 r3.2.2 = r4 at *
    by_cases he : r4.2.2 = 0
    · obtain ⟨f3, e4⟩ := d4 he
      obtain ⟨f2, e3⟩ := d3 f3
      obtain ⟨f1, e2⟩ := d2 f2
      obtain ⟨_, e1⟩ := d1 f1
      rw [if_neg (by simp [he])] at h ⊢
      by_cases hc : r1.1 < 64 ∧ r2.1 < 64 ∧ 1 ≤ r4.1 ∧ r4.1 ≤ 64
      · rw [if_pos hc] at h ⊢
        have dh := hashesIn_dec r4.1 [] r4.2.1 0
        generalize hashesIn r4.1 [] r4.2.1 0 = q at *
        simp only [endC] at h ⊢
        by_cases hq : endIn q.2.1 q.2.2 = 0
        · rw [if_pos hq]
          have hq2 : q.2.2 = 0 ∧ q.2.1 = [] := by
            simp only [endIn] at hq
            split at hq
            · omega
            · rename_i hz
              exact ⟨hq, Classical.byContradiction fun hs => hz ⟨hq, hs⟩⟩
          obtain ⟨_, bt, b1, b2, b3, b4⟩ := dh hq2.1
          rw [List.nil_append] at b1
          rw [hq2.2, List.append_nil] at b2
          simp only [b1]
          refine ⟨?_, ?_, ?_⟩
          · simp only [putCB, cmtB, Int.toNat_natCast, b4]
            rw [e1, e2, e3, e4, b2]; simp
          · simp [rightC, inR, b4]; omega
          · simp only [CmtOk, I64]; exact ⟨by omega, by omega, l3, b3, by omega⟩
        · rw [if_neg hq] at h
          exact absurd h hq
      · rw [if_neg hc] at h; cases h
    · rw [if_pos he] at h
      exact absurd h he
  · cases h
theorem rc1 (r b : List UInt8) : rightC ⟨1, 2, r, [b]⟩ = true := rfl
theorem rok1 {r b : List UInt8} (hr : r.length = 32) (hb : b.length = 32) : CmtOk ⟨1, 2, r, [b]⟩ := by
  simp only [CmtOk, I64]
  refine ⟨by omega, by omega, hr, ?_, by simp⟩
  intro h hh; rw [List.mem_singleton.1 hh]; exact hb
theorem putc1 (r b : List UInt8) : putCB ⟨1, 2, r, [b]⟩ = [67, 1, 2] ++ (r ++ ([1] ++ b)) := by
  have e1 : numB (Int.toNat 1) = [1] := by decide +kernel
  have e2 : numB (Int.toNat 2) = [2] := by decide +kernel
  have e3 : numB 1 = [1] := by decide +kernel
  have e4 : numB 2 = [2] := e2
  simp [putCB, cmtB, e1, e3, e4]
theorem bsOk1 : BsOk [[]] := by
  refine ⟨?_, by simp⟩
  intro l hl; rw [List.mem_singleton.1 hl]; simp
theorem bsOk0 : BsOk [] := ⟨by simp, by simp⟩
theorem awake12 : Cl 22 [] [] = some (.bool true, []) := by
  have mk := make_am (w := 1) (st := 2) (by simp [I64]) (by simp [I64]) (l := []) (by simp) (by simp) bsOk1
  have hok := rok1 (vroot_len []) (broot_len [])
  have k1 := keeps_am (c := ⟨1, 2, vrootB [], [brootB []]⟩) hok (l := []) (by simp) (by simp) bsOk1
  have k0 := keeps_am (c := ⟨1, 2, vrootB [], [brootB []]⟩) hok (l := []) (by simp) (by simp) bsOk0
  have e1 : keepsB ⟨1, 2, vrootB [], [brootB []]⟩ [] [[]] = true := decide_eq_true ⟨rfl, rfl⟩
  have e0 : keepsB ⟨1, 2, vrootB [], [brootB []]⟩ [] [] = false := decide_eq_false (fun h => by have := congrArg List.length h.2; simp at this)
  have hl1 := vroot_len []
  have hl2 := broot_len []
  rw [e1] at k1
  rw [e0] at k0
  have m1 : mkC 1 2 [] [[]] = ⟨1, 2, vrootB [], [brootB []]⟩ := rfl
  rw [m1, okR, if_pos (rc1 _ _)] at mk
  clear e1 e0 m1
  generalize vrootB [] = r at *
  generalize brootB [] = b at *
  have pt := cPut_am hok
  rw [putCR, if_pos (rc1 _ _)] at pt
  have gt := cGet_am (s := putCB ⟨1, 2, r, [b]⟩) (by rw [putc1]; simp; omega)
  rw [getC_put hok (rc1 _ _)] at gt
  have sm := refSameC_am hok hok
  rw [decide_eq_true rfl] at sm
  have sl : slT (.str (putCB ⟨1, 2, r, [b]⟩)) none (some (.int .i64 3)) = some (.str [67, 1, 2]) := by
    rw [putc1]
    have := slT_hi (s := [67, 1, 2] ++ (r ++ ([1] ++ b))) (j := 3) (by simp) .i64
    exact this
  have ln : (putCB ⟨1, 2, r, [b]⟩).length = 68 := by rw [putc1]; simp; omega
  generalize putCB ⟨1, 2, r, [b]⟩ = s at *
  simp only [vGC, vBs, vC, mB, List.map_nil, List.map_cons, c0] at mk pt gt sm k1 k0
  rw [f22_eq, zero32']
  simp (disch := first | assumption | omega | (with_reducible rfl) | (simp only [go_sem]; done) | (simp only [go_sem]; omega) | fail) only [↓reduceIte, ↓jn_eq, Nat.reduceAdd, go_sem, mk, pt, gt, sm, k1, k0, sl, ln]
  rfl
end Go.Proofs.YtmjocdbdbofcbaaDoor
end

section
set_option linter.unusedVariables false
set_option linter.unusedSimpArgs false
set_option linter.unusedSectionVars false
set_option maxRecDepth 100000
namespace Go.Proofs.YtmjocdbdbofcbaaDoor
open Go AM

theorem A32_set (w : List UInt8) (i : Nat) (x : UInt8) : V.upd [i] (A32 w) (.int .u8 (x.toNat : Int)) = (if i < w.length then some (A32 (w.set i x)) else none) := by
  simp only [A32, V.upd]
  by_cases h : i < w.length
  · rw [if_pos h]
    have e : (bytesOf w)[i]? = some (V.int .u8 (w[i].toNat : Int)) := by simp [bytesOf, h]
    simp [e, ofNat_get]
  · rw [if_neg h]
    have e : (bytesOf w)[i]? = none := by simp [bytesOf, h]
    simp [e]
theorem fget3_l0 {a b : V} {s : List UInt8} (hs : 32 ≤ s.length) : ∀ (n i : Nat) (w : List UInt8), i + n = 32 → w.length = 32 → w.take i = s.take i →
    f40_l0 (.str s) (.ref 1 [] 68) (.ref 2 [] 33) (.int .i64 (i : Int)) [a, b, A32 w] = some (.tup [vFld 3 0 0 0 [] (s.take 32), .int .i64 32, .int .i64 0], []) := by
  intro n
  induction n with
  | zero =>
    intro i w hi hw ht
    have e : i = 32 := by omega
    subst e
    rw [List.take_of_length_le (by omega)] at ht
    subst ht
    rw [f40_l0_eq, vFld]
    simp (disch := first | assumption | omega | (with_reducible rfl) | (simp only [go_sem]; done) | (simp only [go_sem]; omega) | fail) only [↓reduceIte, ↓jn_eq, Nat.reduceAdd, go_sem]
    rfl
  | succ n ih =>
    intro i w hi hw ht
    have h : i < s.length := by omega
    have hx : s[i]? = some s[i] := List.getElem?_eq_getElem h
    have := ih (i + 1) (w.set i s[i]) (by omega) (by simp [hw]) (by
      rw [List.take_add_one, List.take_add_one, List.take_set_of_le (by omega), ht, List.getElem?_set_self (by omega), hx])
    have hi32 : i < 32 := by omega
    rw [← this, f40_l0_eq]
    have hu : V.upd [i] (A32 w) (.int .u8 (s[i].toNat : Int)) = some (A32 (w.set i s[i])) := by rw [A32_set, if_pos (by omega)]
    simp (disch := first | assumption | omega | (with_reducible rfl) | (simp only [go_sem]; done) | (simp only [go_sem]; omega) | fail) only [↓reduceIte, ↓jn_eq, Nat.reduceAdd, go_sem, hx, hu]
theorem fget_3 {s : List UInt8} (hl : s.length < 4611686018427387904) : Cl 40 [.str s, vFld 3 0 0 0 [] z32] [] =
    some (if s.length < 32 then .tup [vFld 0 0 0 0 [] z32, .int .i64 0, .int .i64 20] else .tup [vFld 3 0 0 0 [] (s.take 32), .int .i64 32, .int .i64 0], []) := by
  by_cases h : s.length < 32
  · rw [if_pos h, f40_eq, zero32', vFld, vFld]
    simp (disch := first | assumption | omega | (with_reducible rfl) | (simp only [go_sem]; done) | (simp only [go_sem]; omega) | fail) only [↓reduceIte, ↓jn_eq, Nat.reduceAdd, go_sem]
    rfl
  · have hl := fget3_l0 (a := vFld 3 0 0 0 [] z32) (b := vFld 0 0 0 0 [] z32) (s := s) (by omega) 32 0 z32 rfl rfl rfl
    simp only [c0] at hl
    rw [if_neg h, ← hl, f40_eq, zero32', vFld, vFld]
    simp (disch := first | assumption | omega | (with_reducible rfl) | (simp only [go_sem]; done) | (simp only [go_sem]; omega) | fail) only [↓reduceIte, ↓jn_eq, Nat.reduceAdd, go_sem, zero32', c0]

abbrev tFd : TypeId := 67
abbrev K4 : V := .lst 3 .own [.int .i64 0, .int .i64 0, .int .i64 3, .int .i64 0]
noncomputable abbrev l12 (s : List UInt8) (F : List V) (i : Nat) : Rv := f29_l0 (.str s) (.ref 0 [] 41) K4 (.lst 68 .own F) (.int .i64 (i : Int)) [vC .nil cz]
section
variable {s : List UInt8} (hl : s.length < 4611686018427387904) {F : List V} (hp : plL F = true) (ht : F.all (tyG tFd) = true) (hn : F.length ≤ 10) {i : Nat} (hi : i < 4)
include hl hp ht hn hi
theorem l12_num (hk : [V.int .i64 0, V.int .i64 0, V.int .i64 3, V.int .i64 0][i]? = some (.int .i64 0)) {n k : Nat} (h : numL 0 0 s = (n, k, 0)) : l12 s F i = l12 (s.drop k) (F ++ [vFld 0 0 n 0 [] z32]) (i + 1) := by
  have hg := fget_0 hl 0 h
  have hk' := numL_le s 0 0
  rw [h] at hk'; simp only [] at hk'
  simp only [vFld, c0] at hg
  rw [l12, l12, f29_l0_eq, zero32', vFld]
  simp (disch := first | assumption | omega | (with_reducible rfl) | (simp only [go_sem]; done) | (simp only [go_sem]; omega) | fail) only [↓reduceIte, ↓jn_eq, Nat.reduceAdd, go_sem, hk, hg]
theorem l12_err (hk : [V.int .i64 0, V.int .i64 0, V.int .i64 3, V.int .i64 0][i]? = some (.int .i64 0)) {n k e : Nat} (h : numL 0 0 s = (n, k, e)) (he : e ≠ 0) : l12 s F i = some (vGC (cz, e), []) := by
  have hg := fget_bad hl 0 0 (by omega) h he
  simp only [vFld, c0] at hg
  rw [l12, vGC, f29_l0_eq, zero32']
  simp (disch := first | assumption | omega | (with_reducible rfl) | (simp only [go_sem]; done) | (simp only [go_sem]; omega) | fail) only [↓reduceIte, ↓jn_eq, Nat.reduceAdd, go_sem, hk, hg]
  rfl
theorem l12_hash (hk : [V.int .i64 0, V.int .i64 0, V.int .i64 3, V.int .i64 0][i]? = some (.int .i64 3)) (h : ¬ s.length < 32) : l12 s F i = l12 (s.drop 32) (F ++ [vFld 3 0 0 0 [] (s.take 32)]) (i + 1) := by
  have hg := fget_3 hl
  rw [if_neg h] at hg
  simp only [vFld, c0] at hg
  have sl : slT (.str s) (some (.int .i64 32)) none = some (.str (s.drop 32)) := slT_lo (i := 32) (by omega) .i64
  rw [l12, l12, f29_l0_eq, zero32', vFld]
  simp (disch := first | assumption | omega | (with_reducible rfl) | (simp only [go_sem]; done) | (simp only [go_sem]; omega) | fail) only [↓reduceIte, ↓jn_eq, Nat.reduceAdd, go_sem, hk, hg, sl, c0]
theorem l12_herr (hk : [V.int .i64 0, V.int .i64 0, V.int .i64 3, V.int .i64 0][i]? = some (.int .i64 3)) (h : s.length < 32) : l12 s F i = some (vGC (cz, 20), []) := by
  have hg := fget_3 hl
  rw [if_pos h] at hg
  simp only [vFld, c0] at hg
  rw [l12, vGC, f29_l0_eq, zero32']
  simp (disch := first | assumption | omega | (with_reducible rfl) | (simp only [go_sem]; done) | (simp only [go_sem]; omega) | fail) only [↓reduceIte, ↓jn_eq, Nat.reduceAdd, go_sem, hk, hg]
  rfl
end
def docH : Nat → Cmt → List UInt8 → Cmt × Nat
  | 0, c, s => if s ≠ [] then (cz, 22) else (c, 0)
  | n + 1, c, s => if s.length < 32 then (cz, 20) else docH n { c with bt := c.bt ++ [s.take 32] } (s.drop 32)
theorem docH_eq : ∀ (n : Nat) (c : Cmt) (s : List UInt8), docH n c s = endC c (hashesIn n c.bt s 0) := by
  have stick : ∀ (n : Nat) (acc : List (List UInt8)) (s : List UInt8) (e : Nat), e ≠ 0 → (hashesIn n acc s e).2.2 = e := by
    intro n
    induction n with
    | zero => intro acc s e _; rfl
    | succ n ih =>
      intro acc s e he
      rw [hashesIn]
      have : hashIn s e = (z32, s, e) := by simp only [hashIn]; rw [if_pos he]
      rw [this]
      exact ih _ _ _ he
  intro n
  induction n with
  | zero =>
    intro c s
    rw [docH, hashesIn, endC]
    by_cases hs : s = []
    · subst hs
      rw [if_neg (by simp)]; rfl
    · have : endIn s 0 = 22 := by simp [endIn, hs]
      simp only []
      rw [if_pos hs, this]; rfl
  | succ n ih =>
    intro c s
    rw [docH, hashesIn]
    by_cases h : s.length < 32
    · have e1 : hashIn s 0 = (z32, s, 20) := by simp only [hashIn]; rw [if_neg (by simp), if_pos h]
      rw [if_pos h, e1]
      have := stick n (c.bt ++ [z32]) s 20 (by decide)
      simp only []
      generalize hashesIn n (c.bt ++ [z32]) s 20 = q at *
      have e2 : endIn q.2.1 q.2.2 = 20 := by rw [this]; simp [endIn]
      rw [endC, e2]; rfl
    · have e1 : hashIn s 0 = (s.take 32, s.drop 32, 0) := by simp only [hashIn]; rw [if_neg (by simp), if_neg h]
      rw [if_neg h, e1, ih]; rfl
noncomputable abbrev m12 (s : List UInt8) (F : List V) (i : Nat) (f : Fl) (c : Cmt) : Rv := f29_l2 (.str s) (.ref 0 [] 41) (.lst 68 .own F) (.ref 1 [] 41) (.int .u64 (i : Int)) [vC .nil cz, vC f c]
theorem ldTakeD {a d : V} {f : Fl} {c : Cmt} (K : V × List V → Rv) : (ldTake [a, vC f c, d] 39 (.ref 1 [3] 39)).bind K = K (.lst 33 f (c.bt.map A32), [a, vC f.wk c, d]) := by
  have : ldTake [a, vC f c, d] 39 (.ref 1 [3] 39) = some (.lst 33 f (c.bt.map A32), [a, vC f.wk c, d]) := by
    simp only [ldTake, if_true, rd, wr, List.getElem?_cons_succ, List.getElem?_cons_zero, Option.bind_some, V.at, V.upd, weak_lst', Option.map_some, List.set_cons_succ, List.set_cons_zero]
  rw [this]; rfl
theorem m12_eq {a b d : V} {cnt : Nat} (hc : cnt ≤ 64) : ∀ (n i : Nat) (f : Fl) (c : Cmt) (s : List UInt8), i + n = cnt → c.bt.length = i → (f = .own ∨ f = .nil) → s.length < 1000000000 →
    m12 s [a, b, d, vFld 0 0 cnt 0 [] z32] i f c = some (vGC (docH n c s), []) := by
  intro n
  induction n with
  | zero =>
    intro i f c s hi hb hf hl
    rw [docH]
    by_cases hs : s = []
    · rw [if_neg (by simp [hs]), vGC, m12, f29_l2_eq, zero32', vFld]
      rcases hf with rfl | rfl
      · simp (disch := first | assumption | omega | (with_reducible rfl) | (simp only [go_sem]; done) | (simp only [go_sem]; omega) | fail) only [↓reduceIte, ↓jn_eq, Nat.reduceAdd, go_sem, hs]
        rfl
      · simp (disch := first | assumption | omega | (with_reducible rfl) | (simp only [go_sem]; done) | (simp only [go_sem]; omega) | fail) only [↓reduceIte, ↓jn_eq, Nat.reduceAdd, go_sem, hs]
        rfl
    · rw [if_pos hs, vGC, m12, f29_l2_eq, zero32', vFld]
      simp (disch := first | assumption | omega | (with_reducible rfl) | (simp only [go_sem]; done) | (simp only [go_sem]; omega) | fail) only [↓reduceIte, ↓jn_eq, Nat.reduceAdd, go_sem]
      rfl
  | succ n ih =>
    intro i f c s hi hb hf hl
    have hg := fget_3 (s := s) (by omega)
    rw [docH]
    by_cases h : s.length < 32
    · rw [if_pos h] at hg ⊢
      simp only [vFld, c0] at hg
      rw [vGC, m12, f29_l2_eq, zero32', vFld]
      simp (disch := first | assumption | omega | (with_reducible rfl) | (simp only [go_sem]; done) | (simp only [go_sem]; omega) | fail) only [↓reduceIte, ↓jn_eq, Nat.reduceAdd, go_sem, hg]
      rfl
    · rw [if_neg h] at hg ⊢
      simp only [vFld, c0] at hg
      have := ih (i + 1) .own { c with bt := c.bt ++ [s.take 32] } (s.drop 32) (by omega) (by simp [hb]) (Or.inl rfl) (by simp; omega)
      have sl : slT (.str s) (some (.int .i64 32)) none = some (.str (s.drop 32)) := slT_lo (i := 32) (by omega) .i64
      rw [← this, m12, m12, f29_l2_eq, zero32', vFld]
      have hl32 : (s.take 32).length = 32 := by simp; omega
      have hv : vC .own { c with bt := c.bt ++ [s.take 32] } = .agg tCm [.int .i64 c.wk, .int .i64 c.st, A32 c.root, .lst 33 .own (c.bt.map A32 ++ [A32 (s.take 32)])] := by simp [vC]
      rw [hv]
      simp (disch := first | assumption | omega | (with_reducible rfl) | (simp only [go_sem]; done) | (simp only [go_sem]; omega) | fail) only [↓reduceIte, ↓jn_eq, Nat.reduceAdd, go_sem, hg, sl]
      refine (if_pos (rfl)).trans <| (if_pos (rfl)).trans <| (ldTakeD _).trans <| (if_pos (rfl)).trans ?_
      rcases hf with rfl | rfl
      · simp (disch := first | assumption | omega | (with_reducible rfl) | (simp only [go_sem]; done) | (simp only [go_sem]; omega) | fail) only [↓reduceIte, ↓jn_eq, Nat.reduceAdd, go_sem]
      · simp (disch := first | assumption | omega | (with_reducible rfl) | (simp only [go_sem]; done) | (simp only [go_sem]; omega) | fail) only [↓reduceIte, ↓jn_eq, Nat.reduceAdd, go_sem]
def refC1 (s : List UInt8) : Cmt × Nat :=
  let q1 := numL 0 0 s
  if q1.2.2 ≠ 0 then (cz, q1.2.2) else
  let s1 := s.drop q1.2.1
  let q2 := numL 0 0 s1
  if q2.2.2 ≠ 0 then (cz, q2.2.2) else
  let s2 := s1.drop q2.2.1
  if s2.length < 32 then (cz, 20) else
  let s3 := s2.drop 32
  let q4 := numL 0 0 s3
  if q4.2.2 ≠ 0 then (cz, q4.2.2) else
  if q1.1 < 64 ∧ q2.1 < 64 ∧ 1 ≤ q4.1 ∧ q4.1 ≤ 64 then docH q4.1 ⟨q1.1, q2.1, s2.take 32, []⟩ (s3.drop q4.2.1) else (cz, 120)
theorem numIn_e (s : List UInt8) {e : Nat} (he : e ≠ 0) : numIn s e = (0, s, e) := numIn_s s he
theorem hashIn_e (s : List UInt8) {e : Nat} (he : e ≠ 0) : hashIn s e = (z32, s, e) := by simp only [hashIn]; rw [if_pos he]
theorem refC1_eq (s : List UInt8) : refC1 s = getC1 s := by
  obtain ⟨n1, k1, e1, h1⟩ : ∃ n k e, numL 0 0 s = (n, k, e) := ⟨_, _, _, rfl⟩
  rw [refC1, getC1, numIn_z s h1, h1]
  simp only []
  by_cases x1 : e1 ≠ 0
  · rw [if_pos x1, if_neg x1, numIn_e _ x1]
    simp only []
    rw [hashIn_e _ x1]
    simp only []
    rw [numIn_e _ x1]
    simp only []
    rw [if_pos x1]
  obtain rfl : e1 = 0 := by omega
  rw [if_neg x1]
  simp only [if_true]
  generalize s.drop k1 = s1
  obtain ⟨n2, k2, e2, h2⟩ : ∃ n k e, numL 0 0 s1 = (n, k, e) := ⟨_, _, _, rfl⟩
  rw [numIn_z s1 h2, h2]
  simp only []
  by_cases x2 : e2 ≠ 0
  · rw [if_pos x2, if_neg x2, hashIn_e _ x2]
    simp only []
    rw [numIn_e _ x2]
    simp only []
    rw [if_pos x2]
  obtain rfl : e2 = 0 := by omega
  rw [if_neg x2]
  simp only [if_true]
  generalize s1.drop k2 = s2
  by_cases h3 : s2.length < 32
  · have : hashIn s2 0 = (z32, s2, 20) := by simp only [hashIn]; rw [if_neg (by simp), if_pos h3]
    rw [if_pos h3, this]
    simp only []
    rw [numIn_e _ (show 20 ≠ 0 by decide)]
    simp only []
    rw [if_pos (show 20 ≠ 0 by decide)]
  have h3' : hashIn s2 0 = (s2.take 32, s2.drop 32, 0) := by simp only [hashIn]; rw [if_neg (by simp), if_neg h3]
  rw [if_neg h3, h3']
  simp only []
  generalize s2.drop 32 = s3
  obtain ⟨n4, k4, e4, h4⟩ : ∃ n k e, numL 0 0 s3 = (n, k, e) := ⟨_, _, _, rfl⟩
  rw [numIn_z s3 h4, h4]
  simp only []
  by_cases x4 : e4 ≠ 0
  · rw [if_pos x4, if_pos x4]
  obtain rfl : e4 = 0 := by omega
  rw [if_neg x4, if_neg x4, docH_eq]
  simp only [if_true]
theorem l12_fin {s h : List UInt8} {n1 n2 n4 : Nat} (hl : s.length < 1000000000) (hh : h.length = 32) (b1 : n1 < 18446744073709551616) (b2 : n2 < 18446744073709551616) (b4 : n4 < 18446744073709551616) :
    l12 s [vFld 0 0 n1 0 [] z32, vFld 0 0 n2 0 [] z32, vFld 3 0 0 0 [] h, vFld 0 0 n4 0 [] z32] 4 = some (vGC (if n1 < 64 ∧ n2 < 64 ∧ 1 ≤ n4 ∧ n4 ≤ 64 then docH n4 ⟨n1, n2, h, []⟩ s else (cz, 120)), []) := by
  by_cases c1 : n1 < 64
  · by_cases c2 : n2 < 64
    · by_cases c3 : 1 ≤ n4
      · by_cases c4 : n4 ≤ 64
        · have := m12_eq (a := vFld 0 0 n1 0 [] z32) (b := vFld 0 0 n2 0 [] z32) (d := vFld 3 0 0 0 [] h) c4 n4 0 .nil ⟨n1, n2, h, []⟩ s (by omega) rfl (Or.inr rfl) hl
          have w1 : (n1 : Int) < 9223372036854775808 := by omega
          have w2 : (n2 : Int) < 9223372036854775808 := by omega
          simp only [m12, vFld, c0] at this
          rw [if_pos ⟨c1, c2, c3, c4⟩, ← this, l12, f29_l0_eq, zero32']
          simp only [vFld]
          simp (disch := first | assumption | omega | (with_reducible rfl) | (simp only [go_sem]; done) | (simp only [go_sem]; omega) | fail) only [↓reduceIte, ↓jn_eq, Nat.reduceAdd, go_sem, c0]
          rfl
        · rw [if_neg (fun h => c4 h.2.2.2), vGC, l12, f29_l0_eq, zero32']
          simp only [vFld]
          simp (disch := first | assumption | omega | (with_reducible rfl) | (simp only [go_sem]; done) | (simp only [go_sem]; omega) | fail) only [↓reduceIte, ↓jn_eq, Nat.reduceAdd, go_sem, c0]
          rfl
      · rw [if_neg (fun h => c3 h.2.2.1), vGC, l12, f29_l0_eq, zero32']
        simp only [vFld]
        simp (disch := first | assumption | omega | (with_reducible rfl) | (simp only [go_sem]; done) | (simp only [go_sem]; omega) | fail) only [↓reduceIte, ↓jn_eq, Nat.reduceAdd, go_sem, c0]
        rfl
    · rw [if_neg (fun h => c2 h.2.1), vGC, l12, f29_l0_eq, zero32']
      simp only [vFld]
      simp (disch := first | assumption | omega | (with_reducible rfl) | (simp only [go_sem]; done) | (simp only [go_sem]; omega) | fail) only [↓reduceIte, ↓jn_eq, Nat.reduceAdd, go_sem, c0]
      rfl
  · rw [if_neg (fun h => c1 h.1), vGC, l12, f29_l0_eq, zero32']
    simp only [vFld]
    simp (disch := first | assumption | omega | (with_reducible rfl) | (simp only [go_sem]; done) | (simp only [go_sem]; omega) | fail) only [↓reduceIte, ↓jn_eq, Nat.reduceAdd, go_sem, c0]
    rfl
end Go.Proofs.YtmjocdbdbofcbaaDoor
end

section
set_option linter.unusedVariables false
set_option linter.unusedSimpArgs false
set_option linter.unusedSectionVars false
set_option maxRecDepth 100000
namespace Go.Proofs.YtmjocdbdbofcbaaDoor
open Go AM
theorem l12_all {s : List UInt8} (hl : s.length < 1000000000) : l12 s [] 0 = some (vGC (refC1 s), []) := by
  obtain ⟨n1, k1, e1, h1⟩ : ∃ n k e, numL 0 0 s = (n, k, e) := ⟨_, _, _, rfl⟩
  have b1 := numL_lt s 0 0 (by omega) (by decide)
  have z : ∀ (h : List UInt8) (n : Nat) (k : Int), tyG tFd (vFld k 0 n 0 [] h) = true := fun h n k => tyG_vFld ..
  have p : ∀ (h : List UInt8) (n : Nat) (k : Int), (vFld k 0 n 0 [] h).pl = true := fun h n k => pl_vFld ..
  rw [refC1, h1]
  rw [h1] at b1
  simp only [] at b1
  by_cases x1 : e1 ≠ 0
  · rw [if_pos x1]
    exact l12_err (by omega) rfl rfl (by simp) (by omega) rfl h1 x1
  obtain rfl : e1 = 0 := by omega
  rw [if_neg x1, l12_num (by omega) rfl rfl (by simp) (by omega) rfl h1, List.nil_append]
  have l1 : (s.drop k1).length < 1000000000 := by simp; omega
  simp only []
  generalize s.drop k1 = s1 at *
  obtain ⟨n2, k2, e2, h2⟩ : ∃ n k e, numL 0 0 s1 = (n, k, e) := ⟨_, _, _, rfl⟩
  have b2 := numL_lt s1 0 0 (by omega) (by decide)
  rw [h2] at b2
  simp only [] at b2
  rw [h2]
  by_cases x2 : e2 ≠ 0
  · rw [if_pos x2]
    exact l12_err (by omega) (by simp [plL, p]) (by simp [z]) (by simp) (by omega) rfl h2 x2
  obtain rfl : e2 = 0 := by omega
  rw [if_neg x2, l12_num (by omega) (by simp [plL, p]) (by simp [z]) (by simp) (by omega) rfl h2]
  have l2 : (s1.drop k2).length < 1000000000 := by simp; omega
  simp only []
  generalize s1.drop k2 = s2 at *
  by_cases h3 : s2.length < 32
  · rw [if_pos h3]
    exact l12_herr (by omega) (by simp [plL, p]) (by simp [z]) (by simp) (by omega) rfl h3
  rw [if_neg h3, l12_hash (by omega) (by simp [plL, p]) (by simp [z]) (by simp) (by omega) rfl h3]
  have l3 : (s2.drop 32).length < 1000000000 := by simp; omega
  have lh : (s2.take 32).length = 32 := by simp; omega
  generalize s2.take 32 = h at *
  generalize s2.drop 32 = s3 at *
  obtain ⟨n4, k4, e4, h4⟩ : ∃ n k e, numL 0 0 s3 = (n, k, e) := ⟨_, _, _, rfl⟩
  have b4 := numL_lt s3 0 0 (by omega) (by decide)
  rw [h4] at b4
  simp only [] at b4
  rw [h4]
  by_cases x4 : e4 ≠ 0
  · rw [if_pos x4]
    exact l12_err (by omega) (by simp [plL, p]) (by simp [z]) (by simp) (by omega) rfl h4 x4
  obtain rfl : e4 = 0 := by omega
  rw [if_neg x4, l12_num (by omega) (by simp [plL, p]) (by simp [z]) (by simp) (by omega) rfl h4]
  have l4 : (s3.drop k4).length < 1000000000 := by simp; omega
  exact l12_fin l4 lh b1 b2 b4
theorem refGetC_am {s : List UInt8} (hl : s.length < 1000000000) : Cl 29 [.str s] [] = some (vGC (getC s), []) := by
  rw [getC]
  by_cases hs : s = []
  · subst hs
    rw [if_neg (by simp), vGC, f29_eq, zero32']
    simp (disch := first | assumption | omega | (with_reducible rfl) | (simp only [go_sem]; done) | (simp only [go_sem]; omega) | fail) only [↓reduceIte, ↓jn_eq, Nat.reduceAdd, go_sem]
    rfl
  obtain ⟨y, h0, h1⟩ := ix67 hs
  have hd : 1 ≤ s.length := by cases s with
    | nil => exact absurd rfl hs
    | cons x t => simp
  have e1 : decide ((s.length : Int) = 0) = false := decide_eq_false (by omega)
  by_cases hx : y = 67
  · subst hx
    have h := l12_all (s := s.drop 1) (by simp; omega)
    simp only [l12, c0] at h
    rw [if_pos (h1.1 rfl), ← refC1_eq, ← h, f29_eq, zero32']
    simp (disch := first | assumption | omega | (with_reducible rfl) | (simp only [go_sem]; done) | (simp only [go_sem]; omega) | fail) only [↓reduceIte, ↓jn_eq, Nat.reduceAdd, go_sem, e1, h0]
    rfl
  · rw [if_neg (fun h => hx (h1.2 h)), vGC, f29_eq, zero32']
    have en : decide (y ≠ 67) = true := decide_eq_true hx
    simp (disch := first | assumption | omega | (with_reducible rfl) | (simp only [go_sem]; done) | (simp only [go_sem]; omega) | fail) only [↓reduceIte, ↓jn_eq, Nat.reduceAdd, go_sem, e1, h0, en]
    rfl
theorem getC_okn (s : List UInt8) : CmtOk (getC s).1 := by
  by_cases h : (getC s).2 = 0
  · exact (getC_dec h).2.2
  · have : (getC s).1 = cz := by
      revert h
      rw [getC]
      split
      · rw [getC1]
        split
        · intro _; rfl
        · split
          · rw [endC]
            split
            · intro h; exact absurd rfl h
            · intro _; rfl
          · intro _; rfl
      · intro _; rfl
    rw [this]; exact cz_ok
theorem cgets_am {s : List UInt8} : Cl 9 [.str s] [] = some (.bool true, []) := by
  by_cases h3 : 3000 < s.length
  · rw [f9_eq]
    simp (disch := first | assumption | omega | (with_reducible rfl) | (simp only [go_sem]; done) | (simp only [go_sem]; omega) | fail) only [↓reduceIte, ↓jn_eq, Nat.reduceAdd, go_sem, awake12]
  have g1 := cGet_am (s := s) (by omega)
  have g2 := refGetC_am (s := s) (by omega)
  have hok := getC_okn s
  have sm := refSameC_am hok hok
  rw [decide_eq_true rfl] at sm
  have pt := cPut_am hok
  by_cases h : (getC s).2 = 0
  · obtain ⟨d1, d2, d3⟩ := getC_dec h
    rw [putCR, if_pos d2, ← d1] at pt
    rw [vGC, h] at g1 g2
    simp only [c0] at g1 g2 pt
    generalize (getC s).1 = c at *
    clear d1
    rw [f9_eq, zero32']
    simp (disch := first | assumption | omega | (with_reducible rfl) | (simp only [go_sem]; done) | (simp only [go_sem]; omega) | fail) only [↓reduceIte, ↓jn_eq, Nat.reduceAdd, go_sem, awake12, g1, g2, sm, pt]
  · rw [vGC] at g1 g2
    have en : ((getC s).2 : Int) ≠ 0 := by omega
    generalize (getC s).1 = c at *
    generalize ((getC s).2 : Int) = e at *
    rw [f9_eq, zero32']
    simp (disch := first | assumption | omega | (with_reducible rfl) | (simp only [go_sem]; done) | (simp only [go_sem]; omega) | fail) only [↓reduceIte, ↓jn_eq, Nat.reduceAdd, go_sem, awake12, g1, g2, sm]
end Go.Proofs.YtmjocdbdbofcbaaDoor
end
