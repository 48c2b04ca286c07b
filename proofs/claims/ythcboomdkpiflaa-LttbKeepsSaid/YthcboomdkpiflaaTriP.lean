/- Whether Weighted's arguments are in range. -/
import Derived.Test.YthcboomdkpiflaaRows
import Derived.Test.YthcboomdkpiflaaTri
import Derived.Test.YthcboomdkpiflaaTPlain
import Derived.WalkKit
import Derived.ProofKit
import Derived.WalkLawsBesides
import Derived.WalkSpells
import Derived.RegionTactic
import Derived.ChangeAlike
import Derived.BigRegion
import Derived.Outline
import Derived.Handy
namespace Go.Proofs.Ythcboomdkpiflaa
open Go.ChangeShapes Go.WideShapes Go.ChangeAt Go.RowKit
set_option linter.unusedVariables false
set_option linter.unusedSimpArgs false


/-- Whether Weighted's arguments are in range. -/
def wok (n : Bool) (a b c d : Int) (n' : Bool) (a' b' c' d' : Int) (m : Int) : Bool := (decide (1 ≤ m) && decide (m ≤ 1073741824)) && (sm n a b c d && sm n' a' b' c' d')
theorem wok_iff {n : Bool} {a b c d : Int} {n' : Bool} {a' b' c' d' : Int} {m : Int} : wok n a b c d n' a' b' c' d' m = true ↔ Cnt m ∧ sm n a b c d = true ∧ sm n' a' b' c' d' = true := by
  unfold wok Cnt; simp only [Bool.and_eq_true, decide_eq_true_eq]
theorem wok_not {n : Bool} {a b c d : Int} {n' : Bool} {a' b' c' d' : Int} {m : Int} (h : ¬ wok n a b c d n' a' b' c' d' m = true) : m < 1 ∨ 1073741824 < m ∨ sm n a b c d = false ∨ sm n' a' b' c' d' = false := by
  by_cases h1 : m < 1
  · exact Or.inl h1
  by_cases h2 : 1073741824 < m
  · exact Or.inr (Or.inl h2)
  by_cases h3 : sm n a b c d = true
  · refine Or.inr (Or.inr (Or.inr ?_))
    by_cases h4 : sm n' a' b' c' d' = true
    · exact absurd (wok_iff.2 ⟨⟨by omega, by omega⟩, h3, h4⟩) h
    · exact Bool.eq_false_iff.2 h4
  · exact Or.inr (Or.inr (Or.inl (Bool.eq_false_iff.2 h3)))
theorem sm_small {n : Bool} {a b c d : Int} (ha : U64 a) (hb : U64 b) (h : sm n a b c d = true) : Sm (wv n a b c d) := by
  unfold sm at h
  simp only [Bool.and_eq_true, beq_iff_eq] at h
  obtain ⟨_, rfl, rfl⟩ := h
  exact sm_wv ha hb
theorem keep8 {w W W' : World} {m : Nat} {n b1 b2 b3 b4 b5 b6 b7 b8 : Nat} {c1 c2 c3 c4 c5 c6 c7 c8 : Array Value} (h : Below w.heap.size w W ∧ n ≤ W.heap.size ∧ Bx W b1 c1 ∧ Bx W b2 c2 ∧ Bx W b3 c3 ∧ Bx W b4 c4 ∧ Bx W b5 c5 ∧ Bx W b6 c6 ∧ Bx W b7 c7 ∧ Bx W b8 c8) (hb : Below m W W') (hm : m = W.heap.size) : Below w.heap.size w W' ∧ n ≤ W'.heap.size ∧ Bx W' b1 c1 ∧ Bx W' b2 c2 ∧ Bx W' b3 c3 ∧ Bx W' b4 c4 ∧ Bx W' b5 c5 ∧ Bx W' b6 c6 ∧ Bx W' b7 c7 ∧ Bx W' b8 c8 := by
  subst hm
  obtain ⟨h0, hn, h1, h2, h3, h4, h5, h6, h7, h8⟩ := h
  exact ⟨below_more h0 hb, Nat.le_trans hn hb.size, h1.below hb, h2.below hb, h3.below hb, h4.below hb, h5.below hb, h6.below hb, h7.below hb, h8.below hb⟩
theorem keep9 {w W W' : World} {m : Nat} {n b1 b2 b3 b4 b5 b6 b7 b8 b9 : Nat} {c1 c2 c3 c4 c5 c6 c7 c8 c9 : Array Value} (h : Below w.heap.size w W ∧ n ≤ W.heap.size ∧ Bx W b1 c1 ∧ Bx W b2 c2 ∧ Bx W b3 c3 ∧ Bx W b4 c4 ∧ Bx W b5 c5 ∧ Bx W b6 c6 ∧ Bx W b7 c7 ∧ Bx W b8 c8 ∧ Bx W b9 c9) (hb : Below m W W') (hm : m = W.heap.size) : Below w.heap.size w W' ∧ n ≤ W'.heap.size ∧ Bx W' b1 c1 ∧ Bx W' b2 c2 ∧ Bx W' b3 c3 ∧ Bx W' b4 c4 ∧ Bx W' b5 c5 ∧ Bx W' b6 c6 ∧ Bx W' b7 c7 ∧ Bx W' b8 c8 ∧ Bx W' b9 c9 := by
  subst hm
  obtain ⟨h0, hn, h1, h2, h3, h4, h5, h6, h7, h8, h9⟩ := h
  exact ⟨below_more h0 hb, Nat.le_trans hn hb.size, h1.below hb, h2.below hb, h3.below hb, h4.below hb, h5.below hb, h6.below hb, h7.below hb, h8.below hb, h9.below hb⟩
theorem keep10 {w W W' : World} {m : Nat} {n b1 b2 b3 b4 b5 b6 b7 b8 b9 b10 : Nat} {c1 c2 c3 c4 c5 c6 c7 c8 c9 c10 : Array Value} (h : Below w.heap.size w W ∧ n ≤ W.heap.size ∧ Bx W b1 c1 ∧ Bx W b2 c2 ∧ Bx W b3 c3 ∧ Bx W b4 c4 ∧ Bx W b5 c5 ∧ Bx W b6 c6 ∧ Bx W b7 c7 ∧ Bx W b8 c8 ∧ Bx W b9 c9 ∧ Bx W b10 c10) (hb : Below m W W') (hm : m = W.heap.size) : Below w.heap.size w W' ∧ n ≤ W'.heap.size ∧ Bx W' b1 c1 ∧ Bx W' b2 c2 ∧ Bx W' b3 c3 ∧ Bx W' b4 c4 ∧ Bx W' b5 c5 ∧ Bx W' b6 c6 ∧ Bx W' b7 c7 ∧ Bx W' b8 c8 ∧ Bx W' b9 c9 ∧ Bx W' b10 c10 := by
  subst hm
  obtain ⟨h0, hn, h1, h2, h3, h4, h5, h6, h7, h8, h9, h10⟩ := h
  exact ⟨below_more h0 hb, Nat.le_trans hn hb.size, h1.below hb, h2.below hb, h3.below hb, h4.below hb, h5.below hb, h6.below hb, h7.below hb, h8.below hb, h9.below hb, h10.below hb⟩
theorem keep11 {w W W' : World} {m : Nat} {n b1 b2 b3 b4 b5 b6 b7 b8 b9 b10 b11 : Nat} {c1 c2 c3 c4 c5 c6 c7 c8 c9 c10 c11 : Array Value} (h : Below w.heap.size w W ∧ n ≤ W.heap.size ∧ Bx W b1 c1 ∧ Bx W b2 c2 ∧ Bx W b3 c3 ∧ Bx W b4 c4 ∧ Bx W b5 c5 ∧ Bx W b6 c6 ∧ Bx W b7 c7 ∧ Bx W b8 c8 ∧ Bx W b9 c9 ∧ Bx W b10 c10 ∧ Bx W b11 c11) (hb : Below m W W') (hm : m = W.heap.size) : Below w.heap.size w W' ∧ n ≤ W'.heap.size ∧ Bx W' b1 c1 ∧ Bx W' b2 c2 ∧ Bx W' b3 c3 ∧ Bx W' b4 c4 ∧ Bx W' b5 c5 ∧ Bx W' b6 c6 ∧ Bx W' b7 c7 ∧ Bx W' b8 c8 ∧ Bx W' b9 c9 ∧ Bx W' b10 c10 ∧ Bx W' b11 c11 := by
  subst hm
  obtain ⟨h0, hn, h1, h2, h3, h4, h5, h6, h7, h8, h9, h10, h11⟩ := h
  exact ⟨below_more h0 hb, Nat.le_trans hn hb.size, h1.below hb, h2.below hb, h3.below hb, h4.below hb, h5.below hb, h6.below hb, h7.below hb, h8.below hb, h9.below hb, h10.below hb, h11.below hb⟩
theorem keep12 {w W W' : World} {m : Nat} {n b1 b2 b3 b4 b5 b6 b7 b8 b9 b10 b11 b12 : Nat} {c1 c2 c3 c4 c5 c6 c7 c8 c9 c10 c11 c12 : Array Value} (h : Below w.heap.size w W ∧ n ≤ W.heap.size ∧ Bx W b1 c1 ∧ Bx W b2 c2 ∧ Bx W b3 c3 ∧ Bx W b4 c4 ∧ Bx W b5 c5 ∧ Bx W b6 c6 ∧ Bx W b7 c7 ∧ Bx W b8 c8 ∧ Bx W b9 c9 ∧ Bx W b10 c10 ∧ Bx W b11 c11 ∧ Bx W b12 c12) (hb : Below m W W') (hm : m = W.heap.size) : Below w.heap.size w W' ∧ n ≤ W'.heap.size ∧ Bx W' b1 c1 ∧ Bx W' b2 c2 ∧ Bx W' b3 c3 ∧ Bx W' b4 c4 ∧ Bx W' b5 c5 ∧ Bx W' b6 c6 ∧ Bx W' b7 c7 ∧ Bx W' b8 c8 ∧ Bx W' b9 c9 ∧ Bx W' b10 c10 ∧ Bx W' b11 c11 ∧ Bx W' b12 c12 := by
  subst hm
  obtain ⟨h0, hn, h1, h2, h3, h4, h5, h6, h7, h8, h9, h10, h11, h12⟩ := h
  exact ⟨below_more h0 hb, Nat.le_trans hn hb.size, h1.below hb, h2.below hb, h3.below hb, h4.below hb, h5.below hb, h6.below hb, h7.below hb, h8.below hb, h9.below hb, h10.below hb, h11.below hb, h12.below hb⟩
end Go.Proofs.Ythcboomdkpiflaa
