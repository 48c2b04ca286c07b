/- Plain facts on lists of words: the number that they are, its canonical words, sums, products, order. No program in sight. -/
import Derived.Test.YthcboomdkpiflaaRows
import Derived.Test.YthcboomdkpiflaaWPlain
namespace Go.Proofs.Ythcboomdkpiflaa
set_option linter.unusedVariables false
set_option linter.unusedSimpArgs false

def VL : List Int → Int
  | [] => 0
  | x :: l => x + 18446744073709551616 * VL l
def Ws (l : List Int) : Prop := ∀ x ∈ l, U64 x
/-- The powers of 2^64. -/
def pw : Nat → Int
  | 0 => 1
  | k + 1 => 18446744073709551616 * pw k
theorem pw_pos (k : Nat) : 0 < pw k := by
  induction k with
  | zero => simp [pw]
  | succ k ih => simp only [pw]; omega
theorem pw_succ (k : Nat) : pw (k + 1) = 18446744073709551616 * pw k := rfl
theorem pw_add (j k : Nat) : pw (j + k) = pw j * pw k := by
  induction j with
  | zero => simp [pw]
  | succ j ih => rw [Nat.succ_add, pw_succ, pw_succ, ih, Int.mul_assoc]
theorem Ws.cons {x : Int} {l : List Int} (h : Ws (x :: l)) : U64 x ∧ Ws l := ⟨h x List.mem_cons_self, fun y hy => h y (List.mem_cons_of_mem _ hy)⟩
theorem Ws.take {l : List Int} (h : Ws l) (k : Nat) : Ws (l.take k) := fun x hx => h x (List.mem_of_mem_take hx)
theorem Ws.drop {l : List Int} (h : Ws l) (k : Nat) : Ws (l.drop k) := fun x hx => h x (List.mem_of_mem_drop hx)
theorem Ws.append {l r : List Int} (h : Ws l) (h' : Ws r) : Ws (l ++ r) := fun x hx => (List.mem_append.1 hx).elim (h x) (h' x)
theorem Ws.nil : Ws [] := by intro x hx; cases hx
theorem Ws.one {x : Int} (h : U64 x) : Ws [x] := by intro y hy; simp at hy; subst hy; exact h
theorem Ws.set {l : List Int} (h : Ws l) {x : Int} (hx : U64 x) (k : Nat) : Ws (l.set k x) := fun y hy => by
  rcases List.mem_or_eq_of_mem_set hy with hy | rfl
  · exact h y hy
  · exact hx
theorem Ws.getD {l : List Int} (h : Ws l) (k : Nat) : U64 (l.getD k 0) := by
  rw [List.getD_eq_getElem?_getD]
  rcases Nat.lt_or_ge k l.length with hk | hk
  · rw [List.getElem?_eq_getElem hk]; exact h _ (List.getElem_mem _)
  · rw [List.getElem?_eq_none hk]; exact U64.zero
theorem Ws.zeros (n : Nat) : Ws (List.replicate n 0) := fun x hx => by rw [List.eq_of_mem_replicate hx]; exact U64.zero

theorem VL_append (l r : List Int) : VL (l ++ r) = VL l + pw l.length * VL r := by
  induction l with
  | nil => simp [VL, pw]
  | cons x l ih => rw [List.cons_append, List.length_cons]; simp only [VL, pw, ih, Int.mul_assoc, Int.mul_add, Int.add_assoc]
theorem VL_snoc (l : List Int) (x : Int) : VL (l ++ [x]) = VL l + pw l.length * x := by rw [VL_append]; simp [VL]
theorem VL_nonneg {l : List Int} (h : Ws l) : 0 ≤ VL l := by
  induction l with
  | nil => simp [VL]
  | cons x l ih => obtain ⟨⟨h1, _⟩, h2⟩ := h.cons; have := ih h2; simp only [VL]; omega
theorem VL_lt {l : List Int} (h : Ws l) : VL l < pw l.length := by
  induction l with
  | nil => simp [VL, pw]
  | cons x l ih => obtain ⟨⟨h1, h2⟩, h3⟩ := h.cons; have := ih h3; rw [List.length_cons]; simp only [VL, pw]; omega
theorem VL_zeros (n : Nat) : VL (List.replicate n 0) = 0 := by
  induction n with
  | zero => rfl
  | succ n ih => rw [List.replicate_succ]; simp only [VL, ih]; rfl
theorem VL_set (l : List Int) (k : Nat) (hk : k < l.length) (x : Int) : VL (l.set k x) = VL l + pw k * (x - l.getD k 0) := by
  induction l generalizing k with
  | nil => simp at hk
  | cons y l ih =>
    cases k with
    | zero => simp [VL, pw]; omega
    | succ k =>
      have := ih k (by simpa using hk)
      simp only [List.set_cons_succ, VL, this, pw, List.getD_cons_succ, Int.mul_add, Int.mul_assoc]
      omega
theorem take_snocD (l : List Int) (k : Nat) (hk : k < l.length) : l.take (k + 1) = l.take k ++ [l.getD k 0] := by
  rw [List.take_succ_eq_append_getElem hk, List.getD_eq_getElem?_getD, List.getElem?_eq_getElem hk]; rfl
/-- The first k words, where missing ones are 0. -/
def TV (l : List Int) (k : Nat) : Int := VL (l.take k)
theorem TV_zero (l : List Int) : TV l 0 = 0 := by simp [TV, VL]
theorem TV_succ (l : List Int) (k : Nat) : TV l (k + 1) = TV l k + pw k * l.getD k 0 := by
  unfold TV
  rcases Nat.lt_or_ge k l.length with hk | hk
  · rw [take_snocD l k hk, VL_snoc, List.length_take, Nat.min_eq_left (by omega)]
  · rw [List.take_of_length_le (by omega), List.take_of_length_le hk, List.getD_eq_getElem?_getD, List.getElem?_eq_none hk]; simp
theorem TV_all (l : List Int) (k : Nat) (h : l.length ≤ k) : TV l k = VL l := by unfold TV; rw [List.take_of_length_le h]

/-! ### Canonical words -/
def wl (n : Int) : List Int := if h : n ≤ 0 then [] else (n % 18446744073709551616) :: wl (n / 18446744073709551616)
termination_by n.toNat
decreasing_by omega
theorem wl_nil {n : Int} (h : n ≤ 0) : wl n = [] := by rw [wl]; simp [h]
theorem wl_cons {n : Int} (h : 0 < n) : wl n = (n % 18446744073709551616) :: wl (n / 18446744073709551616) := by rw [wl]; simp [show ¬ n ≤ 0 by omega]
def Trim (l : List Int) : Prop := l = [] ∨ l.getLastD 0 ≠ 0
theorem wl_words (n : Int) : Ws (wl n) := by
  induction h : n.toNat using Nat.strongRecOn generalizing n with
  | ind k ih =>
    by_cases h0 : n ≤ 0
    · rw [wl_nil h0]; exact Ws.nil
    · rw [wl_cons (by omega)]
      intro x hx
      rcases List.mem_cons.1 hx with rfl | hx
      · exact ⟨by omega, by omega⟩
      · exact ih _ (by omega) _ rfl x hx
theorem VL_wl {n : Int} (h : 0 ≤ n) : VL (wl n) = n := by
  induction hk : n.toNat using Nat.strongRecOn generalizing n with
  | ind k ih =>
    by_cases h0 : n ≤ 0
    · rw [wl_nil h0]; simp [VL]; omega
    · rw [wl_cons (by omega)]
      simp only [VL]
      rw [ih _ (by omega) (by omega) rfl]; omega
theorem wl_ne {n : Int} (h : 0 < n) : wl n ≠ [] := by rw [wl_cons h]; simp
/-- The canonical words of a list's number: the list without zeros at the end. -/
theorem wl_VL {l : List Int} (h : Ws l) : ∃ k, k ≤ l.length ∧ wl (VL l) = l.take k ∧ (∀ j, k ≤ j → l.getD j 0 = 0) ∧ (0 < k → l.getD (k - 1) 0 ≠ 0) := by
  induction l with
  | nil => exact ⟨0, by simp, by simp [VL, wl_nil], by simp, by simp⟩
  | cons x l ih =>
    obtain ⟨⟨h1, h2⟩, h3⟩ := h.cons
    obtain ⟨k, hk, e, hz, hl⟩ := ih h3
    have hn := VL_nonneg h3
    have hm : (x + 18446744073709551616 * VL l) % 18446744073709551616 = x := by omega
    have hd : (x + 18446744073709551616 * VL l) / 18446744073709551616 = VL l := by omega
    by_cases h0 : x + 18446744073709551616 * VL l ≤ 0
    · have hx : x = 0 := by omega
      have hv : VL l = 0 := by omega
      refine ⟨0, by simp, by simp only [VL]; rw [wl_nil h0]; simp, fun j _ => ?_, by simp⟩
      rw [hv, wl_nil (Int.le_refl _)] at e
      have hk0 : k = 0 := by
        rcases Nat.eq_zero_or_pos k with h | h
        · exact h
        · have := congrArg List.length e; simp at this; omega
      cases j with
      | zero => simpa using hx
      | succ j => simpa using hz j (by omega)
    · refine ⟨k + 1, by simp; omega, ?_, fun j hj => ?_, fun _ => ?_⟩
      · simp only [VL]; rw [wl_cons (by omega), hm, hd, e]; simp
      · cases j with
        | zero => omega
        | succ j => simpa using hz j (by omega)
      · rcases Nat.eq_zero_or_pos k with h | h
        · subst h
          have hv : VL l = 0 := by
            rcases Int.lt_or_le 0 (VL l) with h | h
            · exact absurd (by simpa using e) (wl_ne h)
            · omega
          simp; omega
        · have := hl h
          have e2 : k + 1 - 1 = (k - 1) + 1 := by omega
          rw [e2, List.getD_cons_succ]; exact this
theorem wl_take {l : List Int} (h : Ws l) {k : Nat} (hk : k ≤ l.length) (hz : ∀ j, k ≤ j → l.getD j 0 = 0) (hl : 0 < k → l.getD (k - 1) 0 ≠ 0) : wl (VL l) = l.take k ∧ (wl (VL l)).length = k := by
  obtain ⟨k', hk', e, hz', hl'⟩ := wl_VL h
  have : k = k' := by
    rcases Nat.lt_trichotomy k k' with h1 | h1 | h1
    · exact absurd (hz (k' - 1) (by omega)) (hl' (by omega))
    · exact h1
    · exact absurd (hz' (k - 1) (by omega)) (hl (by omega))
  subst this
  exact ⟨e, by rw [e]; simp; omega⟩
theorem wl_le_len {l : List Int} (h : Ws l) : (wl (VL l)).length ≤ l.length := by
  obtain ⟨k, hk, e, _, _⟩ := wl_VL h
  rw [e, List.length_take]; omega
theorem wl_len_lt {n : Int} (h : 0 ≤ n) (k : Nat) : (wl n).length ≤ k ↔ n < pw k := by
  constructor
  · intro hl
    have h1 := VL_lt (wl_words n)
    rw [VL_wl h] at h1
    have : pw (wl n).length ≤ pw k := by
      obtain ⟨d, rfl⟩ : ∃ d, k = (wl n).length + d := ⟨k - (wl n).length, by omega⟩
      rw [pw_add]
      have h2 := pw_pos (wl n).length
      have h3 := pw_pos d
      have := Int.mul_le_mul_of_nonneg_left (show (1 : Int) ≤ pw d by omega) (show 0 ≤ pw (wl n).length by omega)
      omega
    omega
  · induction k generalizing n with
    | zero => intro h1; simp [pw] at h1; rw [wl_nil (by omega)]; simp
    | succ k ih =>
      intro h1
      by_cases h0 : n ≤ 0
      · rw [wl_nil h0]; simp
      · rw [wl_cons (by omega), List.length_cons]
        have := ih (n := n / 18446744073709551616) (by omega) (by rw [pw_succ] at h1; omega)
        omega

/-! ### Sums -/
theorem add_round {s c' x y c A Ba Bb P : Int} (e : s + 18446744073709551616 * c' = x + y + c) (h : A + P * c = Ba + Bb) : A + P * s + 18446744073709551616 * P * c' = (Ba + P * x) + (Bb + P * y) := by
  have h1 : P * s + 18446744073709551616 * P * c' = P * (s + 18446744073709551616 * c') := by rw [Int.mul_add, Int.mul_comm 18446744073709551616 P, Int.mul_assoc]
  have h2 : P * (x + y + c) = P * x + P * y + P * c := by rw [Int.mul_add, Int.mul_add]
  rw [e] at h1
  omega
theorem sub_round {s c' x y c A Ba Bb P : Int} (e : s - 18446744073709551616 * c' = x - y - c) (h : A - P * c = Ba - Bb) : A + P * s - 18446744073709551616 * P * c' = (Ba + P * x) - (Bb + P * y) := by
  have h1 : P * s - 18446744073709551616 * P * c' = P * (s - 18446744073709551616 * c') := by rw [Int.mul_sub, Int.mul_comm 18446744073709551616 P, Int.mul_assoc]
  have h2 : P * (x - y - c) = P * x - P * y - P * c := by rw [Int.mul_sub, Int.mul_sub]
  rw [e] at h1
  omega
theorem s64_sum (x y c : Int) : s64 x y c + 18446744073709551616 * c64 x y c = x + y + c := by unfold s64 c64; omega
theorem d64_diff {x y b : Int} (hx : U64 x) (hy : U64 y) (hb : Bit b) : d64 x y b - 18446744073709551616 * b64 x y b = x - y - b := by
  obtain ⟨x1, x2⟩ := hx; obtain ⟨y1, y2⟩ := hy; obtain ⟨b1, b2⟩ := hb
  unfold d64 b64; split <;> omega

/-! ### Order -/
theorem VL_split (l : List Int) (k : Nat) : VL l = VL (l.take k) + pw (min k l.length) * VL (l.drop k) := by
  conv => lhs; rw [← List.take_append_drop k l]
  rw [VL_append, List.length_take]
theorem VL_top {A B : List Int} (hA : Ws A) (hB : Ws B) (hl : A.length = B.length) {i : Nat} (hi : i < A.length) (he : ∀ j, i < j → A.getD j 0 = B.getD j 0) (hlt : A.getD i 0 < B.getD i 0) : VL A < VL B := by
  have d : A.drop (i + 1) = B.drop (i + 1) := by
    apply List.ext_getElem
    · simp [hl]
    · intro j h1 h2
      simp only [List.length_drop] at h1 h2
      have := he (i + 1 + j) (by omega)
      rw [List.getD_eq_getElem?_getD, List.getD_eq_getElem?_getD, List.getElem?_eq_getElem (by omega), List.getElem?_eq_getElem (by omega)] at this
      simpa using this
  have a1 := VL_split A (i + 1)
  have b1 := VL_split B (i + 1)
  rw [Nat.min_eq_left (by omega)] at a1 b1
  rw [take_snocD A i hi, VL_snoc, List.length_take, Nat.min_eq_left (by omega)] at a1
  rw [take_snocD B i (by omega), VL_snoc, List.length_take, Nat.min_eq_left (by omega)] at b1
  rw [d] at a1
  have a2 := VL_lt (hA.take i)
  have b2 := VL_nonneg (hB.take i)
  rw [List.length_take, Nat.min_eq_left (by omega)] at a2
  have p := pw_pos i
  have h3 : pw i * (A.getD i 0 + 1) ≤ pw i * B.getD i 0 := Int.mul_le_mul_of_nonneg_left (by omega) (by omega)
  rw [Int.mul_add, Int.mul_one] at h3
  omega
theorem VL_same {A B : List Int} (hl : A.length = B.length) (he : ∀ j, A.getD j 0 = B.getD j 0) : A = B := by
  apply List.ext_getElem hl
  intro j h1 h2
  have := he j
  rwa [List.getD_eq_getElem?_getD, List.getD_eq_getElem?_getD, List.getElem?_eq_getElem h1, List.getElem?_eq_getElem h2] at this
theorem wl_lt_of_len {m n : Int} (hm : 0 ≤ m) (hn : 0 ≤ n) (h : (wl m).length < (wl n).length) : m < n := by
  have h1 := (wl_len_lt hm (wl m).length).1 (Nat.le_refl _)
  rcases Int.lt_or_le n (pw (wl m).length) with h2 | h2
  · have := (wl_len_lt hn _).2 h2; omega
  · omega
theorem cm_lt {x y : Int} (h : x < y) : cm x y = -1 := by unfold cm; rw [if_pos h]
theorem cm_gt {x y : Int} (h : y < x) : cm x y = 1 := by unfold cm; rw [if_neg (by omega), if_pos h]
theorem cm_eq (x : Int) : cm x x = 0 := by unfold cm; simp

/-! ### Words of a Wide -/
theorem VL4 (a b c d : Int) : VL [a, b, c, d] = MV a b c d := by simp [VL, MV]
theorem pw4 : pw 4 = 115792089237316195423570985008687907853269984665640564039457584007913129639936 := by simp [pw]
theorem getD_wl4 {m : Int} (h0 : 0 ≤ m) (h : up4 m = 0) : (wl m).getD 0 0 = lb0 m ∧ (wl m).getD 1 0 = lb1 m ∧ (wl m).getD 2 0 = lb2 m ∧ (wl m).getD 3 0 = lb3 m ∧ (wl m).length ≤ 4 := by
  have hw : Ws [lb0 m, lb1 m, lb2 m, lb3 m] := by
    intro x hx
    simp at hx
    rcases hx with rfl | rfl | rfl | rfl
    · exact lb0_in _
    · exact lb1_in _
    · exact lb2_in _
    · exact lb3_in _
  have e : VL [lb0 m, lb1 m, lb2 m, lb3 m] = m := by rw [VL4, mv_lb4 h]
  obtain ⟨k, hk, e2, hz, hl⟩ := wl_VL hw
  rw [e] at e2
  have hlen : (wl m).length = k := by rw [e2]; simp at hk ⊢; omega
  have hg : ∀ j, (wl m).getD j 0 = [lb0 m, lb1 m, lb2 m, lb3 m].getD j 0 := fun j => by
    rcases Nat.lt_or_ge j k with h1 | h1
    · rw [e2, List.getD_eq_getElem?_getD, List.getD_eq_getElem?_getD, List.getElem?_take, if_pos h1]
    · rw [hz j h1, List.getD_eq_getElem?_getD, List.getElem?_eq_none (by omega)]; rfl
  exact ⟨hg 0, hg 1, hg 2, hg 3, by simp at hk; omega⟩
theorem wl_fit {m : Int} (h0 : 0 ≤ m) : (wl m).length ≤ 4 ↔ up4 m = 0 := by
  rw [wl_len_lt h0 4, pw4, up4_lt h0]
end Go.Proofs.Ythcboomdkpiflaa
