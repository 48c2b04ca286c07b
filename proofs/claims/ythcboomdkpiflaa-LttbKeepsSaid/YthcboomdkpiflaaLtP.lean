/- Plain: sums, the greatest triangle, the indexes that are chosen. -/
import Derived.Test.YthcboomdkpiflaaRows
import Derived.Test.YthcboomdkpiflaaTPlain
import Derived.Test.YthcboomdkpiflaaTriP
import Derived.Test.YthcboomdkpiflaaLaw
namespace Go.Proofs.Ythcboomdkpiflaa
open Go.ChangeShapes Go.WideShapes Go.ChangeAt Go.RowKit
set_option linter.unusedVariables false
set_option linter.unusedSimpArgs false

abbrev Smps := List (Int × Int)
/-- The sum of a field of the first k samples, as Add gives it. -/
def wsum (f : Int × Int → Int) (ss : Smps) : Nat → Int
  | 0 => 0
  | k + 1 => cl (wsum f ss k + f (ss.getD k (0, 0)))
theorem fits_wsum (f : Int × Int → Int) (ss : Smps) (k : Nat) : Fits (wsum f ss k) := by
  cases k with
  | zero => show Fits 0; unfold Fits; decide
  | succ k => exact fits_cl _
/-- The weighted triangle as the program and the reference compute it. -/
def area (a b : Int × Int) (T V m : Int) : Int :=
  wgt a.1 a.2 b.1 b.2 T V m (wok (sg T) (lb0 (ab T)) (lb1 (ab T)) (lb2 (ab T)) (lb3 (ab T)) (sg V) (lb0 (ab V)) (lb1 (ab V)) (lb2 (ab V)) (lb3 (ab V)) m)
theorem area_nonneg (a b : Int × Int) (T V m : Int) : 0 ≤ area a b T V m := by
  unfold area wgt
  split
  · exact ab_nonneg _
  · exact Int.le_refl 0
/-- The first of the greatest of k numbers: the index and the number. -/
def lg (f : Nat → Int) : Nat → Nat × Int
  | 0 => (0, -1)
  | k + 1 => if (lg f k).2 < f k then (k, f k) else lg f k
theorem lg_lt (f : Nat → Int) (hf : ∀ i, 0 ≤ f i) : ∀ k, 0 < k → (lg f k).1 < k ∧ (lg f k).2 = f (lg f k).1
  | 0, h => by omega
  | 1, _ => by
    have := hf 0
    have e : lg f 1 = if (-1 : Int) < f 0 then (0, f 0) else (0, -1) := rfl
    rw [e, if_pos (by omega)]; exact ⟨by simp, rfl⟩
  | k + 2, _ => by
    have ih := lg_lt f hf (k + 1) (by omega)
    have e : lg f (k + 2) = if (lg f (k + 1)).2 < f (k + 1) then (k + 1, f (k + 1)) else lg f (k + 1) := rfl
    rw [e]
    split
    · exact ⟨by simp, rfl⟩
    · exact ⟨by omega, ih.2⟩
theorem lg_max (f : Nat → Int) : ∀ k i, i < k → f i ≤ (lg f k).2
  | 0, i, h => by omega
  | k + 1, i, h => by
    have ih := lg_max f k
    have e : lg f (k + 1) = if (lg f k).2 < f k then (k, f k) else lg f k := rfl
    rw [e]
    by_cases hi : i = k
    · subst hi; split <;> simp <;> omega
    · have := ih i (by omega)
      split <;> simp <;> omega
theorem lg_first (f : Nat → Int) (hf : ∀ i, 0 ≤ f i) : ∀ k i, i < (lg f k).1 → f i < (lg f k).2
  | 0, i, h => by simp [lg] at h
  | k + 1, i, h => by
    have ih := lg_first f hf k
    have mx := lg_max f k
    have e : lg f (k + 1) = if (lg f k).2 < f k then (k, f k) else lg f k := rfl
    rw [e] at h ⊢
    split at h
    · rename_i h1
      rw [if_pos h1]
      have := mx i h
      simp; omega
    · rename_i h1
      rw [if_neg h1]
      exact ih i h

/-! ### Buckets -/
/-- Where a bucket begins. -/
def bk (n k j : Nat) : Nat := 1 + j * (n - 2) / (k - 2)
/-- Where the bucket after the next one begins. -/
def bke (n k j : Nat) : Nat := if j + 2 < k - 1 then bk n k (j + 2) else n
theorem bk_last {n k : Nat} (hk : 3 ≤ k) (hn : k ≤ n) : bk n k (k - 2) = n - 1 := by
  unfold bk
  rw [Nat.mul_comm, Nat.mul_div_cancel _ (by omega)]
  omega
theorem bk_step {n k : Nat} (hk : 3 ≤ k) (hn : k ≤ n) (j : Nat) : bk n k j < bk n k (j + 1) := by
  unfold bk
  have h1 : (j + 1) * (n - 2) = j * (n - 2) + (n - 2) := Nat.succ_mul _ _
  have h2 : j * (n - 2) / (k - 2) + 1 = (j * (n - 2) + (k - 2)) / (k - 2) := (Nat.add_div_right _ (by omega)).symm
  have h3 : (j * (n - 2) + (k - 2)) / (k - 2) ≤ ((j + 1) * (n - 2)) / (k - 2) := Nat.div_le_div_right (by omega)
  omega
theorem bk_mono {n k : Nat} (hk : 3 ≤ k) (hn : k ≤ n) {i j : Nat} (h : i ≤ j) : bk n k i ≤ bk n k j := by
  induction j with
  | zero => rw [Nat.le_zero.1 h]; exact Nat.le_refl _
  | succ j ih =>
    by_cases he : i = j + 1
    · subst he; exact Nat.le_refl _
    · exact Nat.le_trans (ih (by omega)) (Nat.le_of_lt (bk_step hk hn j))
theorem bk_le {n k : Nat} (hk : 3 ≤ k) (hn : k ≤ n) {j : Nat} (h : j ≤ k - 2) : 1 ≤ bk n k j ∧ bk n k j ≤ n - 1 := by
  have := bk_mono hk hn h
  rw [bk_last hk hn] at this
  exact ⟨Nat.le_add_right _ _, this⟩
theorem bke_in {n k : Nat} (hk : 3 ≤ k) (hn : k ≤ n) {j : Nat} (h : j + 1 ≤ k - 2) : bk n k (j + 1) < bke n k j ∧ bke n k j ≤ n := by
  unfold bke
  have h1 := bk_le hk hn h
  split
  · have := bk_step hk hn (j + 1)
    have := bk_le hk hn (j := j + 2) (by omega)
    exact ⟨by omega, by omega⟩
  · exact ⟨by omega, Nat.le_refl _⟩

/-! ### The choice -/
/-- Samples from..to. -/
def cut (ss : Smps) (i j : Nat) : Smps := (ss.take j).drop i
theorem cut_len {ss : Smps} {i j : Nat} (h : j ≤ ss.length) : (cut ss i j).length = j - i := by unfold cut; rw [List.length_drop, List.length_take]; omega
theorem cut_get {ss : Smps} {i j t : Nat} (h : j ≤ ss.length) (ht : t < j - i) : (cut ss i j).getD t (0, 0) = ss.getD (i + t) (0, 0) := by
  unfold cut
  rw [List.getD_eq_getElem?_getD, List.getElem?_drop, List.getElem?_take, if_pos (by omega), ← List.getD_eq_getElem?_getD]
/-- The greatest of the samples l with a and the samples nx. -/
def best (a : Int × Int) (l nx : Smps) (k : Nat) : Nat × Int := lg (fun i => area a (l.getD i (0, 0)) (wsum Prod.fst nx nx.length) (wsum Prod.snd nx nx.length) nx.length) k
/-- The index that is chosen from bucket j, if at was chosen before it. -/
def pickb (ss : Smps) (k j at_ : Nat) : Nat := bk ss.length k j + (best (ss.getD at_ (0, 0)) (cut ss (bk ss.length k j) (bk ss.length k (j + 1))) (cut ss (bk ss.length k (j + 1)) (bke ss.length k j)) (bk ss.length k (j + 1) - bk ss.length k j)).1
def chosen (ss : Smps) (k : Nat) : Nat → Nat
  | 0 => 0
  | j + 1 => pickb ss k j (chosen ss k j)
theorem pickb_in {ss : Smps} {k : Nat} (hk : 3 ≤ k) (hn : k ≤ ss.length) (j at_ : Nat) : bk ss.length k j ≤ pickb ss k j at_ ∧ pickb ss k j at_ < bk ss.length k (j + 1) := by
  have h := bk_step hk hn j
  have := (lg_lt (fun i => area (ss.getD at_ (0, 0)) ((cut ss (bk ss.length k j) (bk ss.length k (j + 1))).getD i (0, 0)) (wsum Prod.fst (cut ss (bk ss.length k (j + 1)) (bke ss.length k j)) (cut ss (bk ss.length k (j + 1)) (bke ss.length k j)).length) (wsum Prod.snd (cut ss (bk ss.length k (j + 1)) (bke ss.length k j)) (cut ss (bk ss.length k (j + 1)) (bke ss.length k j)).length) (cut ss (bk ss.length k (j + 1)) (bke ss.length k j)).length) (fun i => area_nonneg _ _ _ _ _) (bk ss.length k (j + 1) - bk ss.length k j) (by omega)).1
  unfold pickb best
  omega
theorem chosen_in {ss : Smps} {k : Nat} (hk : 3 ≤ k) (hn : k ≤ ss.length) {j : Nat} (h : j ≤ k - 2) : chosen ss k j < ss.length := by
  cases j with
  | zero => show 0 < _; omega
  | succ j =>
    have h1 := (pickb_in hk hn j (chosen ss k j)).2
    have h2 := (bk_le hk hn h).2
    show pickb ss k j (chosen ss k j) < _
    omega
/-- The indexes after j rounds, and all. -/
def chs (ss : Smps) (k j : Nat) : List Int := (List.range (j + 1)).map fun i => (chosen ss k i : Int)
theorem chs_len (ss : Smps) (k j : Nat) : (chs ss k j).length = j + 1 := by simp [chs]
theorem chs_succ (ss : Smps) (k j : Nat) : chs ss k (j + 1) = chs ss k j ++ [(pickb ss k j (chosen ss k j) : Int)] := by
  unfold chs
  rw [List.range_succ, List.map_append]; rfl
theorem chs_get (ss : Smps) (k j i : Nat) (h : i ≤ j) : (chs ss k j).getD i 0 = (chosen ss k i : Int) := by
  unfold chs
  rw [List.getD_eq_getElem?_getD, List.getElem?_map, List.getElem?_range (by omega)]; rfl
/-- Times that increase strictly. -/
def incr (ss : Smps) : Bool := decide (∀ i, i < ss.length - 1 → (ss.getD i (0, 0)).1 < (ss.getD (i + 1) (0, 0)).1)
def bok (n : Nat) (k : Int) : Bool := decide (3 ≤ k) && decide (k ≤ n) && decide (n ≤ 1073741824)
/-- The error and the indexes. -/
def ixe (ss : Smps) (k : Int) : Int := if incr ss then (if bok ss.length k then 0 else 2) else 7
def ixs (ss : Smps) (k : Int) : List Int := if ixe ss k = 0 then chs ss k.toNat (k.toNat - 2) ++ [(ss.length : Int) - 1] else []
end Go.Proofs.Ythcboomdkpiflaa
