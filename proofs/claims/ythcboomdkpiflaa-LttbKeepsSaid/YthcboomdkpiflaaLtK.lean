/- Plain: what Indexes and Select give for 3 ≤ k ≤ n; all of them if there are k. -/
import Derived.Test.YthcboomdkpiflaaRows
import Derived.Test.YthcboomdkpiflaaLtZ
import Derived.Test.YthcboomdkpiflaaTapeK
import Derived.Test.YthcboomdkpiflaaMadeB
namespace Go.Proofs.Ythcboomdkpiflaa
open Go.ChangeShapes Go.WideShapes Go.ChangeAt Go.RowKit
set_option linter.unusedVariables false
set_option linter.unusedSimpArgs false

theorem smp_inI {ss : Smps} (h : Smp ss) : ∀ s ∈ ss, I64 s.1 ∧ I64 s.2 := fun s hs => ⟨h.1.2 s.1 (List.mem_map.2 ⟨s, hs, rfl⟩), h.2 s hs⟩
theorem smp_incr {ss : Smps} (h : Smp ss) : incr ss = true := by
  unfold incr
  refine decide_eq_true fun i hi => ?_
  have hp := List.pairwise_iff_getElem.1 h.1.1 i (i + 1) (by simp; omega) (by simp; omega) (by omega)
  have e : ∀ j, j < ss.length → (ss.getD j (0, 0)) = ss[j]! := fun j hj => by simp [List.getD_eq_getElem?_getD, List.getElem!_eq_getElem?_getD]; rfl
  rw [List.getElem_map, List.getElem_map] at hp
  rw [List.getD_eq_getElem?_getD, List.getD_eq_getElem?_getD, List.getElem?_eq_getElem (by omega), List.getElem?_eq_getElem (by omega)]
  exact hp
theorem ixe_yes {ss : Smps} {K : Nat} (h : incr ss = true) (hk : 3 ≤ K) (hn : K ≤ ss.length) (hl : ss.length ≤ 1000) : ixe ss K = 0 := by
  rcases bok_cases ss.length (K : Int) with ⟨hb, _⟩ | ⟨_, hb⟩
  · unfold ixe; rw [h, hb]; rfl
  · omega
theorem ixs_yes {ss : Smps} {K : Nat} (h : incr ss = true) (hk : 3 ≤ K) (hn : K ≤ ss.length) (hl : ss.length ≤ 1000) : ixs ss K = chs ss K (K - 2) ++ [(ss.length : Int) - 1] := by
  unfold ixs
  rw [if_pos (ixe_yes h hk hn hl), Int.toNat_natCast]
theorem ixs_lenK {ss : Smps} {K : Nat} (h : incr ss = true) (hk : 3 ≤ K) (hn : K ≤ ss.length) (hl : ss.length ≤ 1000) : (ixs ss K).length = K := by
  have := (ixs_in (K : Int) (ixe_yes h hk hn hl)).2.2.1
  omega
theorem ixs_mid {ss : Smps} {K i : Nat} (h : incr ss = true) (hk : 3 ≤ K) (hn : K ≤ ss.length) (hl : ss.length ≤ 1000) (hi : i ≤ K - 2) : (ixs ss K).getD i 0 = (chosen ss K i : Int) := by
  rw [ixs_yes h hk hn hl, List.getD_eq_getElem?_getD, List.getElem?_append_left (by rw [chs_len]; omega), ← List.getD_eq_getElem?_getD, chs_get _ _ _ _ hi]
theorem ixs_last {ss : Smps} {K : Nat} (h : incr ss = true) (hk : 3 ≤ K) (hn : K ≤ ss.length) (hl : ss.length ≤ 1000) : (ixs ss K).getD (K - 1) 0 = (ss.length : Int) - 1 := by
  rw [ixs_yes h hk hn hl, List.getD_eq_getElem?_getD, List.getElem?_append_right (by rw [chs_len]; omega), chs_len, show K - 1 - (K - 2 + 1) = 0 by omega]
  rfl
/-- One of each bucket. -/
theorem chosen_bk {ss : Smps} {K j : Nat} (hk : 3 ≤ K) (hn : K ≤ ss.length) : bk ss.length K j ≤ chosen ss K (j + 1) ∧ chosen ss K (j + 1) < bk ss.length K (j + 1) := pickb_in hk hn j (chosen ss K j)
theorem ixs_keeps {ss : Smps} {K m : Nat} (h : incr ss = true) (hk : 3 ≤ K) (hn : K ≤ ss.length) (hl : ss.length ≤ 1000) (hm : m + 2 < K) :
    (bks ss.length K).getD m 0 ≤ (ixs ss K).getD (m + 1) 0 ∧ (ixs ss K).getD (m + 1) 0 < (bks ss.length K).getD (m + 1) 0 := by
  rw [ixs_mid h hk hn hl (by omega), bks_get (by omega), bks_get (by omega)]
  have := chosen_bk (ss := ss) (j := m) hk hn
  omega
theorem bk_all {n j : Nat} (hn : 3 ≤ n) : bk n n j = 1 + j := by
  unfold bk
  rw [Nat.mul_div_cancel _ (by omega)]
theorem sel_all {ss : Smps} (h : incr ss = true) (hn : 3 ≤ ss.length) (hl : ss.length ≤ 1000) : sel ss ss.length = ss := by
  have hlen := ixs_lenK h hn (Nat.le_refl _) hl
  refine slist_ext (by rw [sel_len, hlen]) fun j hj => ?_
  rw [sel_len, hlen] at hj
  rw [sel_get (by rw [hlen]; exact hj)]
  have : (ixs ss ss.length).getD j 0 = (j : Int) := by
    by_cases hj2 : j ≤ ss.length - 2
    · rw [ixs_mid h hn (Nat.le_refl _) hl hj2]
      cases j with
      | zero => rfl
      | succ j =>
        have := chosen_bk (ss := ss) (j := j) hn (Nat.le_refl _)
        rw [bk_all hn, bk_all hn] at this
        omega
    · obtain rfl : j = ss.length - 1 := by omega
      rw [ixs_last h hn (Nat.le_refl _) hl]
      omega
  rw [this, Int.toNat_natCast]
/-- Own ints as a slice with a fixed block. -/
theorem own_ints {W : World} {base : Nat} {v : Value} {zs : List Int} (h : W.ownsRow base 3 1 v zs.length (zs.map (Value.int .i64))) (h0 : 0 < zs.length) :
    ∃ g cap, v = .slice (some ⟨g, 0, none⟩) zs.length cap ∧ zs.length ≤ cap ∧ base ≤ g ∧ g < W.heap.size ∧ ∀ j, j < zs.length → W.cell? ⟨g, j, none⟩ = some (.int .i64 (zs.getD j 0)) := by
  obtain ⟨a, cap, rfl, h1, h2, hc⟩ := own_slice h (by simp)
  obtain ⟨g, rfl, h3, h4, h5⟩ := hc h0
  refine ⟨g, cap, rfl, h1, h3, h4, fun j hj => h5 j _ ?_⟩
  rw [List.getElem?_map, List.getElem?_eq_getElem hj, List.getD_eq_getElem?_getD, List.getElem?_eq_getElem hj]
  rfl
end Go.Proofs.Ythcboomdkpiflaa
