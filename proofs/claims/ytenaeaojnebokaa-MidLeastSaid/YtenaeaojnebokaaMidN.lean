/- Plain: the greedy division is least. No program in sight. -/
import Derived.Test.YtenaeaojnebokaaRows
import Derived.Test.YtenaeaojnebokaaMidQ
namespace Go.Proofs.Ytenaeaojnebokaa
set_option linter.unusedVariables false
set_option linter.unusedSimpArgs false

/-- The range of the values from j to i. -/
def Rng (zs : List Int) (j i : Nat) (lo hi : Int) : Prop :=
  (∀ p, j ≤ p → p < i → lo ≤ zs.getD p 0 ∧ zs.getD p 0 ≤ hi) ∧ (∃ p, j ≤ p ∧ p < i ∧ zs.getD p 0 = lo) ∧ ∃ q, j ≤ q ∧ q < i ∧ zs.getD q 0 = hi
/-- Any two of these values are near. -/
def NW (t : Int) (zs : List Int) (j i : Nat) : Prop := ∀ p q, j ≤ p → p < i → j ≤ q → q < i → zs.getD p 0 - zs.getD q 0 ≤ 2 * t
theorem Rng.le {zs : List Int} {j i : Nat} {lo hi : Int} (h : Rng zs j i lo hi) : lo ≤ hi := by
  obtain ⟨h1, ⟨p, hp1, hp2, hp⟩, _⟩ := h
  have := h1 p hp1 hp2
  omega
theorem Rng.nw {t : Int} {zs : List Int} {j i : Nat} {lo hi : Int} (h : Rng zs j i lo hi) : hi - lo ≤ 2 * t ↔ NW t zs j i := by
  obtain ⟨h1, ⟨p, hp1, hp2, hp⟩, ⟨q, hq1, hq2, hq⟩⟩ := h
  constructor
  · intro h a b ha1 ha2 hb1 hb2
    have := h1 a ha1 ha2
    have := h1 b hb1 hb2
    omega
  · intro h
    have := h q p hq1 hq2 hp1 hp2
    omega
theorem Rng.one (zs : List Int) (i : Nat) : Rng zs i (i + 1) (zs.getD i 0) (zs.getD i 0) :=
  ⟨fun p h1 h2 => by obtain rfl : p = i := by omega
                     exact ⟨Int.le_refl _, Int.le_refl _⟩, ⟨i, Nat.le_refl _, by omega, rfl⟩, ⟨i, Nat.le_refl _, by omega, rfl⟩⟩
theorem Rng.right {zs : List Int} {j i : Nat} {lo hi : Int} (h : Rng zs j i lo hi) (hj : j ≤ i) : Rng zs j (i + 1) (min lo (zs.getD i 0)) (max hi (zs.getD i 0)) := by
  obtain ⟨h1, ⟨p, hp1, hp2, hp⟩, ⟨q, hq1, hq2, hq⟩⟩ := h
  refine ⟨fun a ha1 ha2 => ?_, ?_, ?_⟩
  · by_cases e : a = i
    · subst e; omega
    · have := h1 a ha1 (by omega); omega
  · by_cases e : lo ≤ zs.getD i 0
    · exact ⟨p, hp1, by omega, by omega⟩
    · exact ⟨i, hj, by omega, by omega⟩
  · by_cases e : zs.getD i 0 ≤ hi
    · exact ⟨q, hq1, by omega, by omega⟩
    · exact ⟨i, hj, by omega, by omega⟩
theorem Rng.left {zs : List Int} {j i : Nat} {lo hi : Int} (h : Rng zs (j + 1) i lo hi) : Rng zs j i (min lo (zs.getD j 0)) (max hi (zs.getD j 0)) := by
  obtain ⟨h1, ⟨p, hp1, hp2, hp⟩, ⟨q, hq1, hq2, hq⟩⟩ := h
  refine ⟨fun a ha1 ha2 => ?_, ?_, ?_⟩
  · by_cases e : a = j
    · subst e; omega
    · have := h1 a (by omega) ha2; omega
  · by_cases e : lo ≤ zs.getD j 0
    · exact ⟨p, by omega, hp2, by omega⟩
    · exact ⟨j, Nat.le_refl _, by omega, by omega⟩
  · by_cases e : zs.getD j 0 ≤ hi
    · exact ⟨q, by omega, hq2, by omega⟩
    · exact ⟨j, Nat.le_refl _, by omega, by omega⟩
theorem narr_rng {t : Int} {zs : List Int} {j i : Nat} {lo hi : Int} (h : Rng zs j i lo hi) : narr t lo hi = true ↔ NW t zs j i := by
  have := h.le
  rw [← h.nw]
  unfold narr dst
  rw [decide_eq_true_iff]
  split <;> constructor <;> intro _ <;> omega
theorem NW.sub {t : Int} {zs : List Int} {j j' i i' : Nat} (h : NW t zs j i) (hj : j ≤ j') (hi : i' ≤ i) : NW t zs j' i' := fun p q h1 h2 h3 h4 => h p q (by omega) (by omega) (by omega) (by omega)

/-- The number of segments of the first i values. -/
def G (t : Int) (zs : List Int) (i : Nat) : Nat := (mall t (zs.take i)).length
theorem G_zero (t : Int) (zs : List Int) : G t zs 0 = 0 := rfl
theorem G_all (t : Int) (zs : List Int) : G t zs zs.length = (mall t zs).length := by unfold G; rw [List.take_length]
/-- What is known when i values have come. -/
def St (t : Int) (zs : List Int) (i : Nat) : Prop := ∃ c mn mx os, mfold t (zs.take i) = ((c, mn, mx), os) ∧
  ((i = 0 ∧ c = 0 ∧ os = []) ∨ ∃ s, s < i ∧ c = ((i - s : Nat) : Int) ∧ Rng zs s i mn mx ∧ NW t zs s i ∧ G t zs i = os.length + 1 ∧ G t zs s = os.length)
theorem G_of {t : Int} {zs : List Int} {i : Nat} {c mn mx : Int} {os : List (Int × Int)} (h : mfold t (zs.take i) = ((c, mn, mx), os)) : G t zs i = os.length + (if c = 0 then 0 else 1) := by
  unfold G mall
  rw [h, List.length_append]
  show os.length + (fin c mn mx).toList.length = _
  unfold fin
  split <;> simp
theorem st_step {t : Int} (ht : tolb t = true) {zs : List Int} {i : Nat} (hi : i < zs.length) (h : St t zs i) : St t zs (i + 1) ∧ (G t zs (i + 1) = G t zs i ∨ G t zs (i + 1) = G t zs i + 1) := by
  obtain ⟨c, mn, mx, os, hm, hs⟩ := h
  have hm2 : mfold t (zs.take (i + 1)) = acc t ((c, mn, mx), os) (zs.getD i 0) := by
    rw [take_snoc zs hi, mfold_snoc, hm]
  obtain ⟨v, hv⟩ : ∃ v, zs.getD i 0 = v := ⟨_, rfl⟩
  rw [hv] at hm2
  have hgi := G_of hm
  cases hg : goes t c mn mx v
  · have hm3 : mfold t (zs.take (i + 1)) = ((1, v, v), os ++ (fin c mn mx).toList) := by
      rw [hm2]
      unfold acc stp nC nMin nMax nEnd
      simp only [hg, Bool.false_eq_true, if_false]
    have hg2 := G_of hm3
    simp only [List.length_append] at hg2
    have hfl : (fin c mn mx).toList.length = if c = 0 then 0 else 1 := by unfold fin; split <;> simp
    rw [hfl] at hg2
    have hgn : G t zs (i + 1) = G t zs i + 1 := by rw [hg2, hgi]; simp
    refine ⟨⟨1, v, v, _, hm3, .inr ⟨i, by omega, by simp, hv ▸ Rng.one zs i, fun p q h1 h2 h3 h4 => ?_, ?_, ?_⟩⟩, Or.inr hgn⟩
    · obtain ⟨t1, t2⟩ := tolb_yes ht
      obtain rfl : p = i := by omega
      obtain rfl : q = p := by omega
      omega
    · rw [hgn, hgi, List.length_append, hfl]
    · rw [hgi, List.length_append, hfl]
  · have hc : 0 < c ∧ narr t (min mn v) (max mx v) = true := by
      unfold goes at hg; simpa using hg
    have hm3 : mfold t (zs.take (i + 1)) = ((c + 1, min mn v, max mx v), os) := by
      rw [hm2]
      unfold acc stp nC nMin nMax nEnd
      simp only [hg, if_true]
      simp
    have hg2 := G_of hm3
    have hgn : G t zs (i + 1) = G t zs i := by rw [hg2, hgi, if_neg (by omega), if_neg (by omega)]
    rcases hs with ⟨h0, hc0, _⟩ | ⟨s, hsi, hcs, hr, hn, h1, h2⟩
    · omega
    · have hr2 := hr.right (by omega)
      rw [hv] at hr2
      exact ⟨⟨c + 1, min mn v, max mx v, os, hm3, .inr ⟨s, by omega, by omega, hr2, (narr_rng hr2).1 hc.2, by rw [hgn]; exact h1, h2⟩⟩, Or.inl hgn⟩
theorem st_all {t : Int} (ht : tolb t = true) {zs : List Int} : ∀ i, i ≤ zs.length → St t zs i
  | 0, _ => ⟨0, 0, 0, [], rfl, .inl ⟨rfl, rfl, rfl⟩⟩
  | i + 1, h => (st_step ht (by omega) (st_all ht i (by omega))).1
theorem G_step {t : Int} (ht : tolb t = true) {zs : List Int} {i : Nat} (hi : i < zs.length) : G t zs (i + 1) = G t zs i ∨ G t zs (i + 1) = G t zs i + 1 := by
  exact (st_step ht hi (st_all ht (zs := zs) i (by omega))).2
theorem G_le {t : Int} (ht : tolb t = true) {zs : List Int} : ∀ i, i ≤ zs.length → G t zs i ≤ i
  | 0, _ => by rw [G_zero]; exact Nat.le_refl _
  | i + 1, h => by
    have := G_le ht (zs := zs) i (by omega)
    have := G_step ht (zs := zs) (i := i) (by omega)
    omega
theorem G_mono {t : Int} (ht : tolb t = true) {zs : List Int} {j : Nat} : ∀ i, j ≤ i → i ≤ zs.length → G t zs j ≤ G t zs i
  | 0, h, _ => by obtain rfl : j = 0 := by omega
                  exact Nat.le_refl _
  | i + 1, h, hl => by
    by_cases e : j = i + 1
    · subst e; exact Nat.le_refl _
    · have := G_mono ht (zs := zs) (j := j) i (by omega) (by omega)
      have := G_step ht (zs := zs) (i := i) (by omega)
      omega
/-- The last segment: its values are near, and it is one more. -/
theorem G_last {t : Int} (ht : tolb t = true) {zs : List Int} {i : Nat} (h0 : 0 < i) (hi : i ≤ zs.length) : ∃ s, s < i ∧ NW t zs s i ∧ G t zs i = G t zs s + 1 := by
  obtain ⟨c, mn, mx, os, hm, ⟨h, _⟩ | ⟨s, h1, _, _, h4, h5, h6⟩⟩ := st_all ht i hi
  · omega
  · exact ⟨s, h1, h4, by omega⟩
theorem G_near_aux {t : Int} (ht : tolb t = true) {zs : List Int} {j : Nat} : ∀ i, j ≤ i → i ≤ zs.length → NW t zs j i → G t zs i ≤ G t zs j ∨ (G t zs i = G t zs j + 1 ∧ ∃ c mn mx os s, mfold t (zs.take i) = ((c, mn, mx), os) ∧ s < i ∧ c = ((i - s : Nat) : Int) ∧ j ≤ s ∧ Rng zs s i mn mx)
  | 0, h, _, _ => .inl (by obtain rfl : j = 0 := by omega
                           exact Nat.le_refl _)
  | i + 1, h, hl, hn => by
    by_cases e : j = i + 1
    · subst e; exact .inl (Nat.le_refl _)
    have hst := st_all ht (zs := zs) i (by omega)
    have ih := G_near_aux ht i (by omega) (by omega) (hn.sub (Nat.le_refl _) (by omega))
    obtain ⟨c, mn, mx, os, hm, hs⟩ := hst
    have hm2 : mfold t (zs.take (i + 1)) = acc t ((c, mn, mx), os) (zs.getD i 0) := by
      rw [take_snoc zs (by omega), mfold_snoc, hm]
    obtain ⟨v, hv⟩ : ∃ v, zs.getD i 0 = v := ⟨_, rfl⟩
    rw [hv] at hm2
    have hgi := G_of hm
    cases hg : goes t c mn mx v
    · have hm3 : mfold t (zs.take (i + 1)) = ((1, v, v), os ++ (fin c mn mx).toList) := by
        rw [hm2]
        unfold acc stp nC nMin nMax nEnd
        simp only [hg, Bool.false_eq_true, if_false]
      have hgn := G_step ht (zs := zs) (i := i) (by omega)
      rcases ih with ih | ⟨ih, c', mn', mx', os', s, hm', hsi, hcs, hjs, hr⟩
      · by_cases hle : G t zs (i + 1) ≤ G t zs j
        · exact .inl hle
        · exact .inr ⟨by omega, 1, v, v, _, i, hm3, by omega, by simp, by omega, hv ▸ Rng.one zs i⟩
      · exfalso
        rw [hm] at hm'
        cases hm'
        have hr2 := hr.right (by omega)
        rw [hv] at hr2
        have hnar := (narr_rng hr2).2 (hn.sub hjs (Nat.le_refl _))
        unfold goes at hg
        rw [hnar] at hg
        simp at hg
        omega
    · have hc : 0 < c ∧ narr t (min mn v) (max mx v) = true := by
        unfold goes at hg; simpa using hg
      have hm3 : mfold t (zs.take (i + 1)) = ((c + 1, min mn v, max mx v), os) := by
        rw [hm2]
        unfold acc stp nC nMin nMax nEnd
        simp only [hg, if_true]
        simp
      have hg2 := G_of hm3
      have hgn : G t zs (i + 1) = G t zs i := by rw [hg2, hgi, if_neg (by omega), if_neg (by omega)]
      rcases ih with ih | ⟨ih, c', mn', mx', os', s, hm', hsi, hcs, hjs, hr⟩
      · exact .inl (by omega)
      · rw [hm] at hm'
        cases hm'
        have hr2 := hr.right (by omega)
        rw [hv] at hr2
        exact .inr ⟨by omega, c + 1, min mn v, max mx v, os, s, hm3, by omega, by omega, hjs, hr2⟩
/-- Near values cost at most one segment. -/
theorem G_near {t : Int} (ht : tolb t = true) {zs : List Int} {j i : Nat} (h : j ≤ i) (hi : i ≤ zs.length) (hn : NW t zs j i) : G t zs i ≤ G t zs j + 1 := by
  rcases G_near_aux ht i h hi hn with h | ⟨h, _⟩ <;> omega
end Go.Proofs.Ytenaeaojnebokaa
