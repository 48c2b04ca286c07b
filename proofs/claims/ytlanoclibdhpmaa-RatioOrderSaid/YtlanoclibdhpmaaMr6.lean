/- Several texts in one: Qc, Tp, CdT, Tr, CdL3, L3, Open, Ck. -/
import Derived.Test.YtlanoclibdhpmaaProg
import Derived.Test.YtlanoclibdhpmaaRows
import Derived.OpenShut
import Derived.SizedLaws
import Derived.Laws.IdiomArrays
import Derived.Test.YtlanoclibdhpmaaMr2
import Derived.Test.YtlanoclibdhpmaaMr5

/- Qc: What calls of the reference of ratio give. -/
namespace Go.Proofs.Ytlanoclibdhpmaa
open Go Go.RowKit Sx
set_option linter.unusedVariables false
set_option linter.unusedSimpArgs false
theorem small_plain2 {m : Int} (h : A4 m) : m < ((2 ^ 127 : Nat) : Int) ↔ lb3 m = 0 ∧ lb2 m = 0 ∧ lb1 m < 9223372036854775808 := by
  rw [small_plain h]
  have := lb1_in m
  rw [Int.fdiv_eq_ediv_of_nonneg _ (by decide)]
  unfold U64 at this
  constructor
  · rintro ⟨a, b, c⟩; exact ⟨a, b, by omega⟩
  · rintro ⟨a, b, c⟩; exact ⟨a, b, by omega⟩
theorem rx_small {z : Int} (h : Fits z) (W : World) : Gives Try.prog 82 [WX z] W (· = .bool (decide (ab z < ((2 ^ 127 : Nat) : Int)))) := by
  have e := small_plain2 (m := ab z) ⟨ab_nonneg z, (fits_lt z).1 h⟩
  refine gives_known en_r03_small ?_
  rw [show decide (ab z < ((2 ^ 127 : Nat) : Int)) = (decide (lb3 (ab z) = 0) && (decide (lb2 (ab z) = 0) && decide (lb1 (ab z) < 9223372036854775808))) by rw [Bool.eq_iff_iff, decide_eq_true_iff, e]; simp]
  clear e h
  refine Sx.known_of (r03_small_start (args := [WX z]) (by simp) ?_)
  repeat' (first | (simp (disch := omega) only [Sx.sxE, r03_small_E, Nat.reduceAdd, Nat.reduceEqDiff, Nat.reduceMul, Nat.reduceSub, Int.reduceAdd, Int.reduceSub, Int.reduceMul, Int.reduceNeg, Int.reduceLT, Int.reduceLE, Int.reduceEq, Int.reduceToNat, ↓reduceIte, decide_true, decide_false, true_and, and_true, not_false_eq_true, not_true_eq_false, Bool.not_true, Bool.not_false, Bool.not_not, Int.cast_ofNat_Int, Int.toNat_natCast, Int.reducePow, ne_eq, eq_self, and_self, Nat.le_refl, Nat.reduceLeDiff, Nat.reduceLT, Bool.false_eq_true, List.length_cons, List.length_nil, qxE]) | ((with_reducible apply Sx.cond_beq); (case' h1 => (intro hc; (try simp only [beq_iff_eq.2 hc]))); (case' h2 => (intro hc; (try simp only [beq_eq_false_iff_ne.2 hc])))) | ((with_reducible apply Sx.cond_dec); (case' h1 => (intro hc; (try simp only [decide_eq_true hc]))); (case' h2 => (intro hc; (try simp only [decide_eq_false hc])))) | ((with_reducible apply Sx.cond_of); (case' h1 => (intro hc; (try simp only [hc]))); (case' h2 => (intro hc; (try simp only [hc])))) | ((with_reducible apply Sx.gd_beq); (case' h1 => (intro hc; (try simp only [beq_iff_eq.2 hc]))); (case' h2 => (intro hc; (try simp only [beq_eq_false_iff_ne.2 hc])))) | ((with_reducible apply Sx.gd_dec); (case' h1 => (intro hc; (try simp only [decide_eq_true hc]))); (case' h2 => (intro hc; (try simp only [decide_eq_false hc])))) | ((with_reducible apply Sx.gd_of); (case' h1 => (intro hc; (try simp only [hc]))); (case' h2 => (intro hc; (try simp only [hc])))))
  all_goals (refine vb ?_; rw [Bool.eq_iff_iff]; simp_all)
theorem rx_abs {z : Int} (W : World) : Gives Try.prog 59 [WX z] W (· = WX (ab z)) := by
  refine gives_known en_r03_abs ?_
  refine Sx.known_of (r03_abs_start (args := [_]) (by simp) ?_)
  repeat' (first | (simp (disch := omega) only [Sx.sxE, r03_abs_E, Nat.reduceAdd, Nat.reduceEqDiff, Nat.reduceMul, Nat.reduceSub, Int.reduceAdd, Int.reduceSub, Int.reduceMul, Int.reduceNeg, Int.reduceLT, Int.reduceLE, Int.reduceEq, Int.reduceToNat, ↓reduceIte, decide_true, decide_false, true_and, and_true, not_false_eq_true, not_true_eq_false, Bool.not_true, Bool.not_false, Bool.not_not, Int.cast_ofNat_Int, Int.toNat_natCast, Int.reducePow, ne_eq, eq_self, and_self, Nat.le_refl, Nat.reduceLeDiff, Nat.reduceLT, Bool.false_eq_true, List.length_cons, List.length_nil, qxE]))
theorem rx_one (W : World) : Gives Try.prog 77 [] W (· = WX 1) := by
  refine gives_known en_r03_one ?_
  refine Sx.known_of (r03_one_start (args := []) (by simp) ?_)
  repeat' (first | (simp (disch := omega) only [Sx.sxE, r03_one_E, Nat.reduceAdd, Nat.reduceEqDiff, Nat.reduceMul, Nat.reduceSub, Int.reduceAdd, Int.reduceSub, Int.reduceMul, Int.reduceNeg, Int.reduceLT, Int.reduceLE, Int.reduceEq, Int.reduceToNat, ↓reduceIte, decide_true, decide_false, true_and, and_true, not_false_eq_true, not_true_eq_false, Bool.not_true, Bool.not_false, Bool.not_not, Int.cast_ofNat_Int, Int.toNat_natCast, Int.reducePow, ne_eq, eq_self, and_self, Nat.le_refl, Nat.reduceLeDiff, Nat.reduceLT, Bool.false_eq_true, List.length_cons, List.length_nil, qxE]) | ((with_reducible apply Sx.known_at (f := 16)); (case h => (intro W hW; (change Gives Try.prog _ _ _ _); with_reducible exact rx_of i64_one W)); (case' hk => skip)) | ((with_reducible apply Sx.asks_at (f := 16)); (case h => (intro W hW; (change Gives Try.prog _ _ _ _); with_reducible exact rx_of i64_one W)); (case' hk => skip)))
def gcF2 (x : Int × Int) : St := ⟨3, [(4, .p 2 0), (5, .v (.int .u64 x.1)), (7, .v (.int .u64 x.2))], [(2, [.bool false, .int .u64 0, .int .u64 0, .int .u64 0, .int .u64 0])], ext0⟩
set_option maxRecDepth 100000 in
theorem rx_gcd {z y : Int} (h : Fits z) (h' : Fits y) (n1 : 0 ≤ z) (n2 : 0 ≤ y) (W : World) : Gives Try.prog 58 [WX z, WX y] W (· = WX (gc z y)) := by
  refine gives_known en_r03_gcd ?_
  refine Sx.known_of (r03_gcd_start (args := [WX z, WX y]) (by simp) ?_)
  repeat' (first | (simp (disch := omega) only [Sx.sxE, r03_gcd_E, Nat.reduceAdd, Nat.reduceEqDiff, Nat.reduceMul, Nat.reduceSub, Int.reduceAdd, Int.reduceSub, Int.reduceMul, Int.reduceNeg, Int.reduceLT, Int.reduceLE, Int.reduceEq, Int.reduceToNat, ↓reduceIte, decide_true, decide_false, true_and, and_true, not_false_eq_true, not_true_eq_false, Bool.not_true, Bool.not_false, Bool.not_not, Int.cast_ofNat_Int, Int.toNat_natCast, Int.reducePow, ne_eq, eq_self, and_self, Nat.le_refl, Nat.reduceLeDiff, Nat.reduceLT, Bool.false_eq_true, List.length_cons, List.length_nil, qxE]))
  rw [r03_gcd_p2_l]
  refine LX_inv gcF (fun x => 0 ≤ x.1 ∧ 0 ≤ x.2 ∧ Fits x.1 ∧ Fits x.2 ∧ gc x.1 x.2 = gc z y) (fun x => x.2.toNat) ?round (z, y) ⟨n1, n2, h, h', rfl⟩ ?start
  case start =>
    unfold gcF wc
    dsimp only
    simp (disch := omega) only [Sx.sxE, r03_gcd_E, Nat.reduceAdd, Nat.reduceEqDiff, Nat.reduceMul, Nat.reduceSub, Int.reduceAdd, Int.reduceSub, Int.reduceMul, Int.reduceNeg, Int.reduceLT, Int.reduceLE, Int.reduceEq, Int.reduceToNat, ↓reduceIte, decide_true, decide_false, true_and, and_true, not_false_eq_true, not_true_eq_false, Bool.not_true, Bool.not_false, Bool.not_not, Int.cast_ofNat_Int, Int.toNat_natCast, Int.reducePow, ne_eq, eq_self, and_self, Nat.le_refl, Nat.reduceLeDiff, Nat.reduceLT, Bool.false_eq_true, List.length_cons, List.length_nil]
  case round =>
    rintro ⟨x, w⟩ ⟨h1, h2, h3, h4, h5⟩
    dsimp only at h1 h2 h3 h4 h5 ⊢
    rw [← h5]
    clear h5 h h' n1 n2
    have hcm := cm_zero w
    unfold gcF wc
    dsimp only
    by_cases hw : w = 0
    · subst hw
      rw [gc_zero x h1]
      have hc0 : cm 0 0 = 0 := rfl
      repeat' (first | (simp (disch := omega) only [Sx.sxE, r03_gcd_E, Nat.reduceAdd, Nat.reduceEqDiff, Nat.reduceMul, Nat.reduceSub, Int.reduceAdd, Int.reduceSub, Int.reduceMul, Int.reduceNeg, Int.reduceLT, Int.reduceLE, Int.reduceEq, Int.reduceToNat, ↓reduceIte, decide_true, decide_false, true_and, and_true, not_false_eq_true, not_true_eq_false, Bool.not_true, Bool.not_false, Bool.not_not, Int.cast_ofNat_Int, Int.toNat_natCast, Int.reducePow, ne_eq, eq_self, and_self, Nat.le_refl, Nat.reduceLeDiff, Nat.reduceLT, Bool.false_eq_true, List.length_cons, List.length_nil, qxE, hc0]) | ((with_reducible apply Sx.known_at (f := 47)); (case h => (intro W hW; (change Gives Try.prog _ _ _ _); with_reducible exact rx_sign h4 W)); (case' hk => skip)) | ((with_reducible apply Sx.asks_at (f := 47)); (case h => (intro W hW; (change Gives Try.prog _ _ _ _); with_reducible exact rx_sign h4 W)); (case' hk => skip)))
    · have hc0 : cm w 0 ≠ 0 := by rw [hcm]; (repeat' split) <;> omega
      have hq := fits_emod (z := x) h4 hw
      have hm0 := Int.emod_nonneg x hw
      have hm1 := Int.emod_lt_of_pos x (show 0 < w by omega)
      have hgs := gc_step h1 (show 0 < w by omega)
      clear hcm
      by_cases hu : x < 18446744073709551616 ∧ w < 18446744073709551616
      · have u1 : unb x = true := decide_eq_true ⟨h1, hu.1⟩
        have u2 : unb w = true := decide_eq_true ⟨h2, hu.2⟩
        have u3 : unv x = x := by unfold unv; rw [u1]; rfl
        have u4 : unv w = w := by unfold unv; rw [u2]; rfl
        have k1 := fun W => rx_unsigned h3 W
        have k2 := fun W => rx_unsigned h4 W
        rw [u1, u3] at k1
        rw [u2, u4] at k2
        repeat' (first | (simp (disch := omega) only [Sx.sxE, r03_gcd_E, Nat.reduceAdd, Nat.reduceEqDiff, Nat.reduceMul, Nat.reduceSub, Int.reduceAdd, Int.reduceSub, Int.reduceMul, Int.reduceNeg, Int.reduceLT, Int.reduceLE, Int.reduceEq, Int.reduceToNat, ↓reduceIte, decide_true, decide_false, true_and, and_true, not_false_eq_true, not_true_eq_false, Bool.not_true, Bool.not_false, Bool.not_not, Int.cast_ofNat_Int, Int.toNat_natCast, Int.reducePow, ne_eq, eq_self, and_self, Nat.le_refl, Nat.reduceLeDiff, Nat.reduceLT, Bool.false_eq_true, List.length_cons, List.length_nil, qxE]) | ((with_reducible apply Sx.known_at (f := 47)); (case h => (intro W hW; (change Gives Try.prog _ _ _ _); with_reducible exact rx_sign h4 W)); (case' hk => skip)) | ((with_reducible apply Sx.asks_at (f := 47)); (case h => (intro W hW; (change Gives Try.prog _ _ _ _); with_reducible exact rx_sign h4 W)); (case' hk => skip)) | ((with_reducible apply Sx.known_at (f := 89)); (case h => (intro W hW; (change Gives Try.prog _ _ _ _); with_reducible exact k1 W)); (case' hk => skip)) | ((with_reducible apply Sx.asks_at (f := 89)); (case h => (intro W hW; (change Gives Try.prog _ _ _ _); with_reducible exact k1 W)); (case' hk => skip)) | ((with_reducible apply Sx.known_at (f := 89)); (case h => (intro W hW; (change Gives Try.prog _ _ _ _); with_reducible exact k2 W)); (case' hk => skip)) | ((with_reducible apply Sx.asks_at (f := 89)); (case h => (intro W hW; (change Gives Try.prog _ _ _ _); with_reducible exact k2 W)); (case' hk => skip)))
        rw [r03_gcd_p7_l]
        obtain ⟨hu1, hu2⟩ := hu
        clear hgs hm0 hm1 hq hc0 hw u1 u2 u3 u4 k1 k2
        refine LX_inv gcF2 (fun t => U64 t.1 ∧ U64 t.2 ∧ gc t.1 t.2 = gc x w) (fun t => t.2.toNat) ?round2 (x, w) ⟨⟨h1, by omega⟩, ⟨h2, by omega⟩, rfl⟩ ?start2
        case start2 =>
          unfold gcF2
          dsimp only
          simp (disch := omega) only [Sx.sxE, r03_gcd_E, Nat.reduceAdd, Nat.reduceEqDiff, Nat.reduceMul, Nat.reduceSub, Int.reduceAdd, Int.reduceSub, Int.reduceMul, Int.reduceNeg, Int.reduceLT, Int.reduceLE, Int.reduceEq, Int.reduceToNat, ↓reduceIte, decide_true, decide_false, true_and, and_true, not_false_eq_true, not_true_eq_false, Bool.not_true, Bool.not_false, Bool.not_not, Int.cast_ofNat_Int, Int.toNat_natCast, Int.reducePow, ne_eq, eq_self, and_self, Nat.le_refl, Nat.reduceLeDiff, Nat.reduceLT, Bool.false_eq_true, List.length_cons, List.length_nil]
        case round2 =>
          rintro ⟨s, t⟩ ⟨i1, i2, i3⟩
          dsimp only at i1 i2 i3 ⊢
          rw [← i3]
          unfold gcF2
          dsimp only
          by_cases ht : t = 0
          · subst ht
            rw [gc_zero s i1.1]
            repeat' (first | (simp (disch := omega) only [Sx.sxE, r03_gcd_E, Nat.reduceAdd, Nat.reduceEqDiff, Nat.reduceMul, Nat.reduceSub, Int.reduceAdd, Int.reduceSub, Int.reduceMul, Int.reduceNeg, Int.reduceLT, Int.reduceLE, Int.reduceEq, Int.reduceToNat, ↓reduceIte, decide_true, decide_false, true_and, and_true, not_false_eq_true, not_true_eq_false, Bool.not_true, Bool.not_false, Bool.not_not, Int.cast_ofNat_Int, Int.toNat_natCast, Int.reducePow, ne_eq, eq_self, and_self, Nat.le_refl, Nat.reduceLeDiff, Nat.reduceLT, Bool.false_eq_true, List.length_cons, List.length_nil, qxE]) | ((with_reducible apply Sx.known_at (f := 31)); (case h => (intro W hW; (change Gives Try.prog _ _ _ _); with_reducible exact rx_ofU i1 W)); (case' hk => skip)) | ((with_reducible apply Sx.asks_at (f := 31)); (case h => (intro W hW; (change Gives Try.prog _ _ _ _); with_reducible exact rx_ofU i1 W)); (case' hk => skip)))
          · have e1 : s.tmod t = s % t := Int.tmod_eq_emod_of_nonneg i1.1
            have j0 := Int.emod_nonneg s ht
            have j1 := Int.emod_lt_of_pos s (show 0 < t by have := i2.1; omega)
            have j2 := gc_step i1.1 (show 0 < t by have := i2.1; omega)
            have j3 := i2.2
            repeat' (first | (simp (disch := omega) only [Sx.sxE, r03_gcd_E, Nat.reduceAdd, Nat.reduceEqDiff, Nat.reduceMul, Nat.reduceSub, Int.reduceAdd, Int.reduceSub, Int.reduceMul, Int.reduceNeg, Int.reduceLT, Int.reduceLE, Int.reduceEq, Int.reduceToNat, ↓reduceIte, decide_true, decide_false, true_and, and_true, not_false_eq_true, not_true_eq_false, Bool.not_true, Bool.not_false, Bool.not_not, Int.cast_ofNat_Int, Int.toNat_natCast, Int.reducePow, ne_eq, eq_self, and_self, Nat.le_refl, Nat.reduceLeDiff, Nat.reduceLT, Bool.false_eq_true, List.length_cons, List.length_nil, qxE, e1]))
            exact ⟨(t, s % t), ⟨i2, ⟨j0, by dsimp only; omega⟩, j2⟩, by dsimp only; omega, by repeat' (first | (with_reducible rfl) | (exact Or.inl rfl) | apply And.intro)⟩
      · have u2 : unb x = false ∨ unb w = false := by
          rcases Int.lt_or_le x 18446744073709551616 with hl | hl
          · right; exact decide_eq_false (by omega)
          · left; exact decide_eq_false (by omega)
        have k1 := fun W => rx_unsigned h3 W
        have k2 := fun W => rx_unsigned h4 W
        generalize unb x = p1 at *
        generalize unb w = p2 at *
        generalize unv x = w1 at *
        generalize unv w = w2 at *
        clear hu
        cases p1
        · repeat' (first | (simp (disch := omega) only [Sx.sxE, r03_gcd_E, Nat.reduceAdd, Nat.reduceEqDiff, Nat.reduceMul, Nat.reduceSub, Int.reduceAdd, Int.reduceSub, Int.reduceMul, Int.reduceNeg, Int.reduceLT, Int.reduceLE, Int.reduceEq, Int.reduceToNat, ↓reduceIte, decide_true, decide_false, true_and, and_true, not_false_eq_true, not_true_eq_false, Bool.not_true, Bool.not_false, Bool.not_not, Int.cast_ofNat_Int, Int.toNat_natCast, Int.reducePow, ne_eq, eq_self, and_self, Nat.le_refl, Nat.reduceLeDiff, Nat.reduceLT, Bool.false_eq_true, List.length_cons, List.length_nil, qxE]) | ((with_reducible apply Sx.known_at (f := 47)); (case h => (intro W hW; (change Gives Try.prog _ _ _ _); with_reducible exact rx_sign h4 W)); (case' hk => skip)) | ((with_reducible apply Sx.asks_at (f := 47)); (case h => (intro W hW; (change Gives Try.prog _ _ _ _); with_reducible exact rx_sign h4 W)); (case' hk => skip)) | ((with_reducible apply Sx.known_at (f := 89)); (case h => (intro W hW; (change Gives Try.prog _ _ _ _); with_reducible exact k1 W)); (case' hk => skip)) | ((with_reducible apply Sx.asks_at (f := 89)); (case h => (intro W hW; (change Gives Try.prog _ _ _ _); with_reducible exact k1 W)); (case' hk => skip)) | ((with_reducible apply Sx.known_at (f := 89)); (case h => (intro W hW; (change Gives Try.prog _ _ _ _); with_reducible exact k2 W)); (case' hk => skip)) | ((with_reducible apply Sx.asks_at (f := 89)); (case h => (intro W hW; (change Gives Try.prog _ _ _ _); with_reducible exact k2 W)); (case' hk => skip)) | ((with_reducible apply Sx.known_at (f := 46)); (case h => (intro W hW; (change Gives Try.prog _ _ _ _); with_reducible exact rx_divmod h3 h4 hw W)); (case' hk => skip)) | ((with_reducible apply Sx.asks_at (f := 46)); (case h => (intro W hW; (change Gives Try.prog _ _ _ _); with_reducible exact rx_divmod h3 h4 hw W)); (case' hk => skip)))
          exact ⟨(w, x % w), ⟨h2, hm0, h4, hq, hgs⟩, by dsimp only; omega, by repeat' (first | (with_reducible rfl) | (exact Or.inl rfl) | apply And.intro)⟩
        · obtain rfl : p2 = false := by rcases u2 with h | h; cases h; exact h
          repeat' (first | (simp (disch := omega) only [Sx.sxE, r03_gcd_E, Nat.reduceAdd, Nat.reduceEqDiff, Nat.reduceMul, Nat.reduceSub, Int.reduceAdd, Int.reduceSub, Int.reduceMul, Int.reduceNeg, Int.reduceLT, Int.reduceLE, Int.reduceEq, Int.reduceToNat, ↓reduceIte, decide_true, decide_false, true_and, and_true, not_false_eq_true, not_true_eq_false, Bool.not_true, Bool.not_false, Bool.not_not, Int.cast_ofNat_Int, Int.toNat_natCast, Int.reducePow, ne_eq, eq_self, and_self, Nat.le_refl, Nat.reduceLeDiff, Nat.reduceLT, Bool.false_eq_true, List.length_cons, List.length_nil, qxE]) | ((with_reducible apply Sx.known_at (f := 47)); (case h => (intro W hW; (change Gives Try.prog _ _ _ _); with_reducible exact rx_sign h4 W)); (case' hk => skip)) | ((with_reducible apply Sx.asks_at (f := 47)); (case h => (intro W hW; (change Gives Try.prog _ _ _ _); with_reducible exact rx_sign h4 W)); (case' hk => skip)) | ((with_reducible apply Sx.known_at (f := 89)); (case h => (intro W hW; (change Gives Try.prog _ _ _ _); with_reducible exact k1 W)); (case' hk => skip)) | ((with_reducible apply Sx.asks_at (f := 89)); (case h => (intro W hW; (change Gives Try.prog _ _ _ _); with_reducible exact k1 W)); (case' hk => skip)) | ((with_reducible apply Sx.known_at (f := 89)); (case h => (intro W hW; (change Gives Try.prog _ _ _ _); with_reducible exact k2 W)); (case' hk => skip)) | ((with_reducible apply Sx.asks_at (f := 89)); (case h => (intro W hW; (change Gives Try.prog _ _ _ _); with_reducible exact k2 W)); (case' hk => skip)) | ((with_reducible apply Sx.known_at (f := 46)); (case h => (intro W hW; (change Gives Try.prog _ _ _ _); with_reducible exact rx_divmod h3 h4 hw W)); (case' hk => skip)) | ((with_reducible apply Sx.asks_at (f := 46)); (case h => (intro W hW; (change Gives Try.prog _ _ _ _); with_reducible exact rx_divmod h3 h4 hw W)); (case' hk => skip)))
          exact ⟨(w, x % w), ⟨h2, hm0, h4, hq, hgs⟩, by dsimp only; omega, by repeat' (first | (with_reducible rfl) | (exact Or.inl rfl) | apply And.intro)⟩
set_option maxRecDepth 100000 in
theorem rx_rvalid {p q : Int} (h : Fits p) (h' : Fits q) (W : World) : Gives Try.prog 42 [RX p q] W (· = .bool (rok true p q)) := by
  have hg := fits_gc h h'
  have hcm := cm_pos q
  have gq := fun (hq : 0 ≤ q) W => rx_gcd (fits_ab h) h' (ab_nonneg p) hq W
  rw [gc_abl] at gq
  refine gives_known en_r03_Valid ?_
  by_cases hq : 0 < q
  · have gq := gq (by omega)
    have hc0 : ¬ cm q 0 ≤ 0 := by omega
    refine Sx.known_of (r03_Valid_start (args := [RX p q]) (by simp) ?_)
    repeat' (first | (simp (disch := omega) only [Sx.sxE, r03_Valid_E, Nat.reduceAdd, Nat.reduceEqDiff, Nat.reduceMul, Nat.reduceSub, Int.reduceAdd, Int.reduceSub, Int.reduceMul, Int.reduceNeg, Int.reduceLT, Int.reduceLE, Int.reduceEq, Int.reduceToNat, ↓reduceIte, decide_true, decide_false, true_and, and_true, not_false_eq_true, not_true_eq_false, Bool.not_true, Bool.not_false, Bool.not_not, Int.cast_ofNat_Int, Int.toNat_natCast, Int.reducePow, ne_eq, eq_self, and_self, Nat.le_refl, Nat.reduceLeDiff, Nat.reduceLT, Bool.false_eq_true, List.length_cons, List.length_nil, qxE]) | ((with_reducible apply Sx.known_at (f := 57)); (case h => (intro W hW; (change Gives Try.prog _ _ _ _); with_reducible exact rx_valid h W)); (case' hk => skip)) | ((with_reducible apply Sx.asks_at (f := 57)); (case h => (intro W hW; (change Gives Try.prog _ _ _ _); with_reducible exact rx_valid h W)); (case' hk => skip)) | ((with_reducible apply Sx.known_at (f := 57)); (case h => (intro W hW; (change Gives Try.prog _ _ _ _); with_reducible exact rx_valid h' W)); (case' hk => skip)) | ((with_reducible apply Sx.asks_at (f := 57)); (case h => (intro W hW; (change Gives Try.prog _ _ _ _); with_reducible exact rx_valid h' W)); (case' hk => skip)) | ((with_reducible apply Sx.known_at (f := 47)); (case h => (intro W hW; (change Gives Try.prog _ _ _ _); with_reducible exact rx_sign h' W)); (case' hk => skip)) | ((with_reducible apply Sx.asks_at (f := 47)); (case h => (intro W hW; (change Gives Try.prog _ _ _ _); with_reducible exact rx_sign h' W)); (case' hk => skip)) | ((with_reducible apply Sx.known_at (f := 82)); (case h => (intro W hW; (change Gives Try.prog _ _ _ _); with_reducible exact rx_small h W)); (case' hk => skip)) | ((with_reducible apply Sx.asks_at (f := 82)); (case h => (intro W hW; (change Gives Try.prog _ _ _ _); with_reducible exact rx_small h W)); (case' hk => skip)) | ((with_reducible apply Sx.known_at (f := 82)); (case h => (intro W hW; (change Gives Try.prog _ _ _ _); with_reducible exact rx_small h' W)); (case' hk => skip)) | ((with_reducible apply Sx.asks_at (f := 82)); (case h => (intro W hW; (change Gives Try.prog _ _ _ _); with_reducible exact rx_small h' W)); (case' hk => skip)) | ((with_reducible apply Sx.known_at (f := 59)); (case h => (intro W hW; (change Gives Try.prog _ _ _ _); with_reducible exact rx_abs W)); (case' hk => skip)) | ((with_reducible apply Sx.asks_at (f := 59)); (case h => (intro W hW; (change Gives Try.prog _ _ _ _); with_reducible exact rx_abs W)); (case' hk => skip)) | ((with_reducible apply Sx.known_at (f := 58)); (case h => (intro W hW; (change Gives Try.prog _ _ _ _); with_reducible exact gq W)); (case' hk => skip)) | ((with_reducible apply Sx.asks_at (f := 58)); (case h => (intro W hW; (change Gives Try.prog _ _ _ _); with_reducible exact gq W)); (case' hk => skip)) | ((with_reducible apply Sx.known_at (f := 77)); (case h => (intro W hW; (change Gives Try.prog _ _ _ _); with_reducible exact rx_one W)); (case' hk => skip)) | ((with_reducible apply Sx.asks_at (f := 77)); (case h => (intro W hW; (change Gives Try.prog _ _ _ _); with_reducible exact rx_one W)); (case' hk => skip)) | ((with_reducible apply Sx.eq_is); (case h => exact fun W => eqx_run hg fits_one W); (case' hk => skip)) | ((with_reducible apply Sx.cond_beq); (case' h1 => (intro hc; (try simp only [beq_iff_eq.2 hc]))); (case' h2 => (intro hc; (try simp only [beq_eq_false_iff_ne.2 hc])))) | ((with_reducible apply Sx.cond_dec); (case' h1 => (intro hc; (try simp only [decide_eq_true hc]))); (case' h2 => (intro hc; (try simp only [decide_eq_false hc])))) | ((with_reducible apply Sx.cond_of); (case' h1 => (intro hc; (try simp only [hc]))); (case' h2 => (intro hc; (try simp only [hc])))) | ((with_reducible apply Sx.gd_beq); (case' h1 => (intro hc; (try simp only [beq_iff_eq.2 hc]))); (case' h2 => (intro hc; (try simp only [beq_eq_false_iff_ne.2 hc])))) | ((with_reducible apply Sx.gd_dec); (case' h1 => (intro hc; (try simp only [decide_eq_true hc]))); (case' h2 => (intro hc; (try simp only [decide_eq_false hc])))) | ((with_reducible apply Sx.gd_of); (case' h1 => (intro hc; (try simp only [hc]))); (case' h2 => (intro hc; (try simp only [hc])))))
    all_goals (refine vb ?_; unfold rok; rw [Bool.eq_iff_iff]; simp_all <;> (intros; omega))
  · have hc0 : cm q 0 ≤ 0 := by omega
    have e : rok true p q = false := by unfold rok; rw [decide_eq_false hq]; rfl
    rw [e]
    refine Sx.known_of (r03_Valid_start (args := [RX p q]) (by simp) ?_)
    repeat' (first | (simp (disch := omega) only [Sx.sxE, r03_Valid_E, Nat.reduceAdd, Nat.reduceEqDiff, Nat.reduceMul, Nat.reduceSub, Int.reduceAdd, Int.reduceSub, Int.reduceMul, Int.reduceNeg, Int.reduceLT, Int.reduceLE, Int.reduceEq, Int.reduceToNat, ↓reduceIte, decide_true, decide_false, true_and, and_true, not_false_eq_true, not_true_eq_false, Bool.not_true, Bool.not_false, Bool.not_not, Int.cast_ofNat_Int, Int.toNat_natCast, Int.reducePow, ne_eq, eq_self, and_self, Nat.le_refl, Nat.reduceLeDiff, Nat.reduceLT, Bool.false_eq_true, List.length_cons, List.length_nil, qxE]) | ((with_reducible apply Sx.known_at (f := 57)); (case h => (intro W hW; (change Gives Try.prog _ _ _ _); with_reducible exact rx_valid h W)); (case' hk => skip)) | ((with_reducible apply Sx.asks_at (f := 57)); (case h => (intro W hW; (change Gives Try.prog _ _ _ _); with_reducible exact rx_valid h W)); (case' hk => skip)) | ((with_reducible apply Sx.known_at (f := 57)); (case h => (intro W hW; (change Gives Try.prog _ _ _ _); with_reducible exact rx_valid h' W)); (case' hk => skip)) | ((with_reducible apply Sx.asks_at (f := 57)); (case h => (intro W hW; (change Gives Try.prog _ _ _ _); with_reducible exact rx_valid h' W)); (case' hk => skip)) | ((with_reducible apply Sx.known_at (f := 47)); (case h => (intro W hW; (change Gives Try.prog _ _ _ _); with_reducible exact rx_sign h' W)); (case' hk => skip)) | ((with_reducible apply Sx.asks_at (f := 47)); (case h => (intro W hW; (change Gives Try.prog _ _ _ _); with_reducible exact rx_sign h' W)); (case' hk => skip)))
theorem rx_rvalid0 {v : Value} (h : BadR v) (W : World) : Gives Try.prog 42 [v] W (· = .bool false) := by
  refine gives_known en_r03_Valid ?_
  rcases h with ⟨q, h, rfl⟩ | ⟨p, h, rfl⟩ | rfl
  · refine Sx.known_of (r03_Valid_start (args := [_]) (by simp) ?_)
    repeat' (first | (simp (disch := omega) only [Sx.sxE, r03_Valid_E, Nat.reduceAdd, Nat.reduceEqDiff, Nat.reduceMul, Nat.reduceSub, Int.reduceAdd, Int.reduceSub, Int.reduceMul, Int.reduceNeg, Int.reduceLT, Int.reduceLE, Int.reduceEq, Int.reduceToNat, ↓reduceIte, decide_true, decide_false, true_and, and_true, not_false_eq_true, not_true_eq_false, Bool.not_true, Bool.not_false, Bool.not_not, Int.cast_ofNat_Int, Int.toNat_natCast, Int.reducePow, ne_eq, eq_self, and_self, Nat.le_refl, Nat.reduceLeDiff, Nat.reduceLT, Bool.false_eq_true, List.length_cons, List.length_nil, qxE]) | ((with_reducible apply Sx.known_at (f := 57)); (case h => (intro W hW; (change Gives Try.prog _ _ _ _); with_reducible exact rx_valid0 W)); (case' hk => skip)) | ((with_reducible apply Sx.asks_at (f := 57)); (case h => (intro W hW; (change Gives Try.prog _ _ _ _); with_reducible exact rx_valid0 W)); (case' hk => skip)))
  · refine Sx.known_of (r03_Valid_start (args := [_]) (by simp) ?_)
    repeat' (first | (simp (disch := omega) only [Sx.sxE, r03_Valid_E, Nat.reduceAdd, Nat.reduceEqDiff, Nat.reduceMul, Nat.reduceSub, Int.reduceAdd, Int.reduceSub, Int.reduceMul, Int.reduceNeg, Int.reduceLT, Int.reduceLE, Int.reduceEq, Int.reduceToNat, ↓reduceIte, decide_true, decide_false, true_and, and_true, not_false_eq_true, not_true_eq_false, Bool.not_true, Bool.not_false, Bool.not_not, Int.cast_ofNat_Int, Int.toNat_natCast, Int.reducePow, ne_eq, eq_self, and_self, Nat.le_refl, Nat.reduceLeDiff, Nat.reduceLT, Bool.false_eq_true, List.length_cons, List.length_nil, qxE]) | ((with_reducible apply Sx.known_at (f := 57)); (case h => (intro W hW; (change Gives Try.prog _ _ _ _); with_reducible exact rx_valid h W)); (case' hk => skip)) | ((with_reducible apply Sx.asks_at (f := 57)); (case h => (intro W hW; (change Gives Try.prog _ _ _ _); with_reducible exact rx_valid h W)); (case' hk => skip)) | ((with_reducible apply Sx.known_at (f := 57)); (case h => (intro W hW; (change Gives Try.prog _ _ _ _); with_reducible exact rx_valid0 W)); (case' hk => skip)) | ((with_reducible apply Sx.asks_at (f := 57)); (case h => (intro W hW; (change Gives Try.prog _ _ _ _); with_reducible exact rx_valid0 W)); (case' hk => skip)))
  · refine Sx.known_of (r03_Valid_start (args := [_]) (by simp) ?_)
    repeat' (first | (simp (disch := omega) only [Sx.sxE, r03_Valid_E, Nat.reduceAdd, Nat.reduceEqDiff, Nat.reduceMul, Nat.reduceSub, Int.reduceAdd, Int.reduceSub, Int.reduceMul, Int.reduceNeg, Int.reduceLT, Int.reduceLE, Int.reduceEq, Int.reduceToNat, ↓reduceIte, decide_true, decide_false, true_and, and_true, not_false_eq_true, not_true_eq_false, Bool.not_true, Bool.not_false, Bool.not_not, Int.cast_ofNat_Int, Int.toNat_natCast, Int.reducePow, ne_eq, eq_self, and_self, Nat.le_refl, Nat.reduceLeDiff, Nat.reduceLT, Bool.false_eq_true, List.length_cons, List.length_nil, qxE]) | ((with_reducible apply Sx.known_at (f := 57)); (case h => (intro W hW; (change Gives Try.prog _ _ _ _); with_reducible exact rx_valid0 W)); (case' hk => skip)) | ((with_reducible apply Sx.asks_at (f := 57)); (case h => (intro W hW; (change Gives Try.prog _ _ _ _); with_reducible exact rx_valid0 W)); (case' hk => skip)))
theorem rx_rof {z : Int} (h : I64 z) (W : World) : Gives Try.prog 37 [.int .i64 z] W (· = RX z 1) := by
  refine gives_known en_r03_Of ?_
  refine Sx.known_of (r03_Of_start (args := [_]) (by simp) ?_)
  repeat' (first | (simp (disch := omega) only [Sx.sxE, r03_Of_E, Nat.reduceAdd, Nat.reduceEqDiff, Nat.reduceMul, Nat.reduceSub, Int.reduceAdd, Int.reduceSub, Int.reduceMul, Int.reduceNeg, Int.reduceLT, Int.reduceLE, Int.reduceEq, Int.reduceToNat, ↓reduceIte, decide_true, decide_false, true_and, and_true, not_false_eq_true, not_true_eq_false, Bool.not_true, Bool.not_false, Bool.not_not, Int.cast_ofNat_Int, Int.toNat_natCast, Int.reducePow, ne_eq, eq_self, and_self, Nat.le_refl, Nat.reduceLeDiff, Nat.reduceLT, Bool.false_eq_true, List.length_cons, List.length_nil, qxE]) | ((with_reducible apply Sx.known_at (f := 16)); (case h => (intro W hW; (change Gives Try.prog _ _ _ _); with_reducible exact rx_of h W)); (case' hk => skip)) | ((with_reducible apply Sx.asks_at (f := 16)); (case h => (intro W hW; (change Gives Try.prog _ _ _ _); with_reducible exact rx_of h W)); (case' hk => skip)) | ((with_reducible apply Sx.known_at (f := 77)); (case h => (intro W hW; (change Gives Try.prog _ _ _ _); with_reducible exact rx_one W)); (case' hk => skip)) | ((with_reducible apply Sx.asks_at (f := 77)); (case h => (intro W hW; (change Gives Try.prog _ _ _ _); with_reducible exact rx_one W)); (case' hk => skip)))
theorem x_foldR01 (q : Int) : Value.agg [.bool false, .int .u64 0, .int .u64 0, .int .u64 0, .int .u64 0, .bool (sg q), .int .u64 (lb0 (ab q)), .int .u64 (lb1 (ab q)), .int .u64 (lb2 (ab q)), .int .u64 (lb3 (ab q))].toArray = RX 0 q := rfl
set_option maxRecDepth 100000 in
theorem rx_rclean {v : Value} {p q : Int} (h : CQ v p q) (W : World) : Gives Try.prog 65 [v] W (· = RX p q) := by
  refine gives_known en_r03_clean ?_
  rcases h with ⟨x, y, h1, h2, rfl, rfl, rfl⟩ | ⟨h, rfl, rfl⟩
  · unfold qn qd
    cases hk : rok true x y
    · refine Sx.known_of (r03_clean_start (args := [_]) (by simp) ?_)
      repeat' (first | (simp (disch := omega) only [Sx.sxE, r03_clean_E, Nat.reduceAdd, Nat.reduceEqDiff, Nat.reduceMul, Nat.reduceSub, Int.reduceAdd, Int.reduceSub, Int.reduceMul, Int.reduceNeg, Int.reduceLT, Int.reduceLE, Int.reduceEq, Int.reduceToNat, ↓reduceIte, decide_true, decide_false, true_and, and_true, not_false_eq_true, not_true_eq_false, Bool.not_true, Bool.not_false, Bool.not_not, Int.cast_ofNat_Int, Int.toNat_natCast, Int.reducePow, ne_eq, eq_self, and_self, Nat.le_refl, Nat.reduceLeDiff, Nat.reduceLT, Bool.false_eq_true, List.length_cons, List.length_nil, qxE, hk, x_foldR01]) | ((with_reducible apply Sx.known_at (f := 42)); (case h => (intro W hW; (change Gives Try.prog _ _ _ _); with_reducible exact rx_rvalid h1 h2 W)); (case' hk => skip)) | ((with_reducible apply Sx.asks_at (f := 42)); (case h => (intro W hW; (change Gives Try.prog _ _ _ _); with_reducible exact rx_rvalid h1 h2 W)); (case' hk => skip)) | ((with_reducible apply Sx.known_at (f := 77)); (case h => (intro W hW; (change Gives Try.prog _ _ _ _); with_reducible exact rx_one W)); (case' hk => skip)) | ((with_reducible apply Sx.asks_at (f := 77)); (case h => (intro W hW; (change Gives Try.prog _ _ _ _); with_reducible exact rx_one W)); (case' hk => skip)))
    · refine Sx.known_of (r03_clean_start (args := [_]) (by simp) ?_)
      repeat' (first | (simp (disch := omega) only [Sx.sxE, r03_clean_E, Nat.reduceAdd, Nat.reduceEqDiff, Nat.reduceMul, Nat.reduceSub, Int.reduceAdd, Int.reduceSub, Int.reduceMul, Int.reduceNeg, Int.reduceLT, Int.reduceLE, Int.reduceEq, Int.reduceToNat, ↓reduceIte, decide_true, decide_false, true_and, and_true, not_false_eq_true, not_true_eq_false, Bool.not_true, Bool.not_false, Bool.not_not, Int.cast_ofNat_Int, Int.toNat_natCast, Int.reducePow, ne_eq, eq_self, and_self, Nat.le_refl, Nat.reduceLeDiff, Nat.reduceLT, Bool.false_eq_true, List.length_cons, List.length_nil, qxE, hk]) | ((with_reducible apply Sx.known_at (f := 42)); (case h => (intro W hW; (change Gives Try.prog _ _ _ _); with_reducible exact rx_rvalid h1 h2 W)); (case' hk => skip)) | ((with_reducible apply Sx.asks_at (f := 42)); (case h => (intro W hW; (change Gives Try.prog _ _ _ _); with_reducible exact rx_rvalid h1 h2 W)); (case' hk => skip)))
  · have hv := fun W => rx_rvalid0 h W
    rcases h with ⟨q, h, rfl⟩ | ⟨p, h, rfl⟩ | rfl
    · refine Sx.known_of (r03_clean_start (args := [_]) (by simp) ?_)
      repeat' (first | (simp (disch := omega) only [Sx.sxE, r03_clean_E, Nat.reduceAdd, Nat.reduceEqDiff, Nat.reduceMul, Nat.reduceSub, Int.reduceAdd, Int.reduceSub, Int.reduceMul, Int.reduceNeg, Int.reduceLT, Int.reduceLE, Int.reduceEq, Int.reduceToNat, ↓reduceIte, decide_true, decide_false, true_and, and_true, not_false_eq_true, not_true_eq_false, Bool.not_true, Bool.not_false, Bool.not_not, Int.cast_ofNat_Int, Int.toNat_natCast, Int.reducePow, ne_eq, eq_self, and_self, Nat.le_refl, Nat.reduceLeDiff, Nat.reduceLT, Bool.false_eq_true, List.length_cons, List.length_nil, qxE, x_foldR01]) | ((with_reducible apply Sx.known_at (f := 42)); (case h => (intro W hW; (change Gives Try.prog _ _ _ _); with_reducible exact hv W)); (case' hk => skip)) | ((with_reducible apply Sx.asks_at (f := 42)); (case h => (intro W hW; (change Gives Try.prog _ _ _ _); with_reducible exact hv W)); (case' hk => skip)) | ((with_reducible apply Sx.known_at (f := 77)); (case h => (intro W hW; (change Gives Try.prog _ _ _ _); with_reducible exact rx_one W)); (case' hk => skip)) | ((with_reducible apply Sx.asks_at (f := 77)); (case h => (intro W hW; (change Gives Try.prog _ _ _ _); with_reducible exact rx_one W)); (case' hk => skip)))
    · refine Sx.known_of (r03_clean_start (args := [_]) (by simp) ?_)
      repeat' (first | (simp (disch := omega) only [Sx.sxE, r03_clean_E, Nat.reduceAdd, Nat.reduceEqDiff, Nat.reduceMul, Nat.reduceSub, Int.reduceAdd, Int.reduceSub, Int.reduceMul, Int.reduceNeg, Int.reduceLT, Int.reduceLE, Int.reduceEq, Int.reduceToNat, ↓reduceIte, decide_true, decide_false, true_and, and_true, not_false_eq_true, not_true_eq_false, Bool.not_true, Bool.not_false, Bool.not_not, Int.cast_ofNat_Int, Int.toNat_natCast, Int.reducePow, ne_eq, eq_self, and_self, Nat.le_refl, Nat.reduceLeDiff, Nat.reduceLT, Bool.false_eq_true, List.length_cons, List.length_nil, qxE, x_foldR01]) | ((with_reducible apply Sx.known_at (f := 42)); (case h => (intro W hW; (change Gives Try.prog _ _ _ _); with_reducible exact hv W)); (case' hk => skip)) | ((with_reducible apply Sx.asks_at (f := 42)); (case h => (intro W hW; (change Gives Try.prog _ _ _ _); with_reducible exact hv W)); (case' hk => skip)) | ((with_reducible apply Sx.known_at (f := 77)); (case h => (intro W hW; (change Gives Try.prog _ _ _ _); with_reducible exact rx_one W)); (case' hk => skip)) | ((with_reducible apply Sx.asks_at (f := 77)); (case h => (intro W hW; (change Gives Try.prog _ _ _ _); with_reducible exact rx_one W)); (case' hk => skip)))
    · refine Sx.known_of (r03_clean_start (args := [_]) (by simp) ?_)
      repeat' (first | (simp (disch := omega) only [Sx.sxE, r03_clean_E, Nat.reduceAdd, Nat.reduceEqDiff, Nat.reduceMul, Nat.reduceSub, Int.reduceAdd, Int.reduceSub, Int.reduceMul, Int.reduceNeg, Int.reduceLT, Int.reduceLE, Int.reduceEq, Int.reduceToNat, ↓reduceIte, decide_true, decide_false, true_and, and_true, not_false_eq_true, not_true_eq_false, Bool.not_true, Bool.not_false, Bool.not_not, Int.cast_ofNat_Int, Int.toNat_natCast, Int.reducePow, ne_eq, eq_self, and_self, Nat.le_refl, Nat.reduceLeDiff, Nat.reduceLT, Bool.false_eq_true, List.length_cons, List.length_nil, qxE, x_foldR01]) | ((with_reducible apply Sx.known_at (f := 42)); (case h => (intro W hW; (change Gives Try.prog _ _ _ _); with_reducible exact hv W)); (case' hk => skip)) | ((with_reducible apply Sx.asks_at (f := 42)); (case h => (intro W hW; (change Gives Try.prog _ _ _ _); with_reducible exact hv W)); (case' hk => skip)) | ((with_reducible apply Sx.known_at (f := 77)); (case h => (intro W hW; (change Gives Try.prog _ _ _ _); with_reducible exact rx_one W)); (case' hk => skip)) | ((with_reducible apply Sx.asks_at (f := 77)); (case h => (intro W hW; (change Gives Try.prog _ _ _ _); with_reducible exact rx_one W)); (case' hk => skip)))
theorem rx_rcompare {v v' : Value} {p q p' q' : Int} (h : CQ v p q) (h' : CQ v' p' q') (W : World) : Gives Try.prog 28 [v, v'] W (· = .int .i64 (cq p q p' q')) := by
  obtain ⟨c0, c1, c2, c3, c4, c5, c6, c7, c8, c9, rfl⟩ := h.ten
  obtain ⟨d0, d1, d2, d3, d4, d5, d6, d7, d8, d9, rfl⟩ := h'.ten
  have f := h.fq
  have f' := h'.fq
  have m1 := f.fm f'
  have m2 := f'.fm f
  refine gives_known en_r03_Compare ?_
  refine Sx.known_of (r03_Compare_start (args := [_, _]) (by simp) ?_)
  repeat' (first | (simp (disch := omega) only [Sx.sxE, r03_Compare_E, Nat.reduceAdd, Nat.reduceEqDiff, Nat.reduceMul, Nat.reduceSub, Int.reduceAdd, Int.reduceSub, Int.reduceMul, Int.reduceNeg, Int.reduceLT, Int.reduceLE, Int.reduceEq, Int.reduceToNat, ↓reduceIte, decide_true, decide_false, true_and, and_true, not_false_eq_true, not_true_eq_false, Bool.not_true, Bool.not_false, Bool.not_not, Int.cast_ofNat_Int, Int.toNat_natCast, Int.reducePow, ne_eq, eq_self, and_self, Nat.le_refl, Nat.reduceLeDiff, Nat.reduceLT, Bool.false_eq_true, List.length_cons, List.length_nil, qxE]) | ((with_reducible apply Sx.known_at (f := 65)); (case h => (intro W hW; (change Gives Try.prog _ _ _ _); with_reducible exact rx_rclean h W)); (case' hk => skip)) | ((with_reducible apply Sx.asks_at (f := 65)); (case h => (intro W hW; (change Gives Try.prog _ _ _ _); with_reducible exact rx_rclean h W)); (case' hk => skip)) | ((with_reducible apply Sx.known_at (f := 65)); (case h => (intro W hW; (change Gives Try.prog _ _ _ _); with_reducible exact rx_rclean h' W)); (case' hk => skip)) | ((with_reducible apply Sx.asks_at (f := 65)); (case h => (intro W hW; (change Gives Try.prog _ _ _ _); with_reducible exact rx_rclean h' W)); (case' hk => skip)) | ((with_reducible apply Sx.known_at (f := 29)); (case h => (intro W hW; (change Gives Try.prog _ _ _ _); with_reducible exact rx_mul f.fp f'.fq m1 W)); (case' hk => skip)) | ((with_reducible apply Sx.asks_at (f := 29)); (case h => (intro W hW; (change Gives Try.prog _ _ _ _); with_reducible exact rx_mul f.fp f'.fq m1 W)); (case' hk => skip)) | ((with_reducible apply Sx.known_at (f := 29)); (case h => (intro W hW; (change Gives Try.prog _ _ _ _); with_reducible exact rx_mul f'.fp f.fq m2 W)); (case' hk => skip)) | ((with_reducible apply Sx.asks_at (f := 29)); (case h => (intro W hW; (change Gives Try.prog _ _ _ _); with_reducible exact rx_mul f'.fp f.fq m2 W)); (case' hk => skip)) | ((with_reducible apply Sx.known_at (f := 33)); (case h => (intro W hW; (change Gives Try.prog _ _ _ _); with_reducible exact rx_compare m1 m2 W)); (case' hk => skip)) | ((with_reducible apply Sx.asks_at (f := 33)); (case h => (intro W hW; (change Gives Try.prog _ _ _ _); with_reducible exact rx_compare m1 m2 W)); (case' hk => skip)))
  rfl
theorem rx_rfloor {v : Value} {p q : Int} (h : CQ v p q) (W : World) : Gives Try.prog 74 [v] W (· = WX (p / q)) := by
  obtain ⟨c0, c1, c2, c3, c4, c5, c6, c7, c8, c9, rfl⟩ := h.ten
  have f := h.fq
  refine gives_known en_r03_Floor ?_
  refine Sx.known_of (r03_Floor_start (args := [_]) (by simp) ?_)
  repeat' (first | (simp (disch := omega) only [Sx.sxE, r03_Floor_E, Nat.reduceAdd, Nat.reduceEqDiff, Nat.reduceMul, Nat.reduceSub, Int.reduceAdd, Int.reduceSub, Int.reduceMul, Int.reduceNeg, Int.reduceLT, Int.reduceLE, Int.reduceEq, Int.reduceToNat, ↓reduceIte, decide_true, decide_false, true_and, and_true, not_false_eq_true, not_true_eq_false, Bool.not_true, Bool.not_false, Bool.not_not, Int.cast_ofNat_Int, Int.toNat_natCast, Int.reducePow, ne_eq, eq_self, and_self, Nat.le_refl, Nat.reduceLeDiff, Nat.reduceLT, Bool.false_eq_true, List.length_cons, List.length_nil, qxE]) | ((with_reducible apply Sx.known_at (f := 65)); (case h => (intro W hW; (change Gives Try.prog _ _ _ _); with_reducible exact rx_rclean h W)); (case' hk => skip)) | ((with_reducible apply Sx.asks_at (f := 65)); (case h => (intro W hW; (change Gives Try.prog _ _ _ _); with_reducible exact rx_rclean h W)); (case' hk => skip)) | ((with_reducible apply Sx.known_at (f := 46)); (case h => (intro W hW; (change Gives Try.prog _ _ _ _); with_reducible exact rx_divmod f.fp f.fq f.ne W)); (case' hk => skip)) | ((with_reducible apply Sx.asks_at (f := 46)); (case h => (intro W hW; (change Gives Try.prog _ _ _ _); with_reducible exact rx_divmod f.fp f.fq f.ne W)); (case' hk => skip)))
theorem rx_rceil {v : Value} {p q : Int} (h : CQ v p q) (W : World) : Gives Try.prog 75 [v] W (· = WX (-(-p / q))) := by
  obtain ⟨c0, c1, c2, c3, c4, c5, c6, c7, c8, c9, rfl⟩ := h.ten
  have f := h.fq
  have f2 := f.neg
  have f3 := fits_ediv f2.fp f2.ne
  refine gives_known en_r03_Ceil ?_
  refine Sx.known_of (r03_Ceil_start (args := [_]) (by simp) ?_)
  repeat' (first | (simp (disch := omega) only [Sx.sxE, r03_Ceil_E, Nat.reduceAdd, Nat.reduceEqDiff, Nat.reduceMul, Nat.reduceSub, Int.reduceAdd, Int.reduceSub, Int.reduceMul, Int.reduceNeg, Int.reduceLT, Int.reduceLE, Int.reduceEq, Int.reduceToNat, ↓reduceIte, decide_true, decide_false, true_and, and_true, not_false_eq_true, not_true_eq_false, Bool.not_true, Bool.not_false, Bool.not_not, Int.cast_ofNat_Int, Int.toNat_natCast, Int.reducePow, ne_eq, eq_self, and_self, Nat.le_refl, Nat.reduceLeDiff, Nat.reduceLT, Bool.false_eq_true, List.length_cons, List.length_nil, qxE]) | ((with_reducible apply Sx.known_at (f := 65)); (case h => (intro W hW; (change Gives Try.prog _ _ _ _); with_reducible exact rx_rclean h W)); (case' hk => skip)) | ((with_reducible apply Sx.asks_at (f := 65)); (case h => (intro W hW; (change Gives Try.prog _ _ _ _); with_reducible exact rx_rclean h W)); (case' hk => skip)) | ((with_reducible apply Sx.known_at (f := 48)); (case h => (intro W hW; (change Gives Try.prog _ _ _ _); with_reducible exact rx_neg f.fp W)); (case' hk => skip)) | ((with_reducible apply Sx.asks_at (f := 48)); (case h => (intro W hW; (change Gives Try.prog _ _ _ _); with_reducible exact rx_neg f.fp W)); (case' hk => skip)) | ((with_reducible apply Sx.known_at (f := 48)); (case h => (intro W hW; (change Gives Try.prog _ _ _ _); with_reducible exact rx_neg f3 W)); (case' hk => skip)) | ((with_reducible apply Sx.asks_at (f := 48)); (case h => (intro W hW; (change Gives Try.prog _ _ _ _); with_reducible exact rx_neg f3 W)); (case' hk => skip)) | ((with_reducible apply Sx.known_at (f := 46)); (case h => (intro W hW; (change Gives Try.prog _ _ _ _); with_reducible exact rx_divmod f2.fp f2.fq f2.ne W)); (case' hk => skip)) | ((with_reducible apply Sx.asks_at (f := 46)); (case h => (intro W hW; (change Gives Try.prog _ _ _ _); with_reducible exact rx_divmod f2.fp f2.fq f2.ne W)); (case' hk => skip)))
theorem rx_rat {v : Value} {p q n : Int} (h : CQ v p q) (hn : U64 n) (W : World) : Gives Try.prog 76 [v, .int .u64 n] W (· = WX (atq p q n)) := by
  obtain ⟨c0, c1, c2, c3, c4, c5, c6, c7, c8, c9, rfl⟩ := h.ten
  have f := h.fq
  have b1 := bd_mul f.bp (bd_u64 hn)
  have b2 : Bd 192 (p * n + p * n) := bd_add b1 b1 (by decide) (by decide)
  have b3 : Bd 193 (p * n + p * n + q) := bd_add b2 f.bq (by decide) (by decide)
  have b4 : Bd 128 (q + q) := bd_add f.bq f.bq (by decide) (by decide)
  have f1 := b1.fits
  have f2 := b2.fits
  have f3 := b3.fits
  have f4 := b4.fits
  have fn := (bd_u64 hn).fits
  have ne : q + q ≠ 0 := by have := f.pos; omega
  have e : atq p q n = (p * n + p * n + q) / (q + q) := by unfold atq; rw [Int.two_mul, Int.two_mul]
  rw [e]
  clear b1 b2 b3 b4 e
  refine gives_known en_r03_At ?_
  refine Sx.known_of (r03_At_start (args := [_, _]) (by simp) ?_)
  repeat' (first | (simp (disch := omega) only [Sx.sxE, r03_At_E, Nat.reduceAdd, Nat.reduceEqDiff, Nat.reduceMul, Nat.reduceSub, Int.reduceAdd, Int.reduceSub, Int.reduceMul, Int.reduceNeg, Int.reduceLT, Int.reduceLE, Int.reduceEq, Int.reduceToNat, ↓reduceIte, decide_true, decide_false, true_and, and_true, not_false_eq_true, not_true_eq_false, Bool.not_true, Bool.not_false, Bool.not_not, Int.cast_ofNat_Int, Int.toNat_natCast, Int.reducePow, ne_eq, eq_self, and_self, Nat.le_refl, Nat.reduceLeDiff, Nat.reduceLT, Bool.false_eq_true, List.length_cons, List.length_nil, qxE]) | ((with_reducible apply Sx.known_at (f := 65)); (case h => (intro W hW; (change Gives Try.prog _ _ _ _); with_reducible exact rx_rclean h W)); (case' hk => skip)) | ((with_reducible apply Sx.asks_at (f := 65)); (case h => (intro W hW; (change Gives Try.prog _ _ _ _); with_reducible exact rx_rclean h W)); (case' hk => skip)) | ((with_reducible apply Sx.known_at (f := 31)); (case h => (intro W hW; (change Gives Try.prog _ _ _ _); with_reducible exact rx_ofU hn W)); (case' hk => skip)) | ((with_reducible apply Sx.asks_at (f := 31)); (case h => (intro W hW; (change Gives Try.prog _ _ _ _); with_reducible exact rx_ofU hn W)); (case' hk => skip)) | ((with_reducible apply Sx.known_at (f := 29)); (case h => (intro W hW; (change Gives Try.prog _ _ _ _); with_reducible exact rx_mul f.fp fn f1 W)); (case' hk => skip)) | ((with_reducible apply Sx.asks_at (f := 29)); (case h => (intro W hW; (change Gives Try.prog _ _ _ _); with_reducible exact rx_mul f.fp fn f1 W)); (case' hk => skip)) | ((with_reducible apply Sx.known_at (f := 32)); (case h => (intro W hW; (change Gives Try.prog _ _ _ _); with_reducible exact rx_add f1 f1 f2 W)); (case' hk => skip)) | ((with_reducible apply Sx.asks_at (f := 32)); (case h => (intro W hW; (change Gives Try.prog _ _ _ _); with_reducible exact rx_add f1 f1 f2 W)); (case' hk => skip)) | ((with_reducible apply Sx.known_at (f := 32)); (case h => (intro W hW; (change Gives Try.prog _ _ _ _); with_reducible exact rx_add f2 f.fq f3 W)); (case' hk => skip)) | ((with_reducible apply Sx.asks_at (f := 32)); (case h => (intro W hW; (change Gives Try.prog _ _ _ _); with_reducible exact rx_add f2 f.fq f3 W)); (case' hk => skip)) | ((with_reducible apply Sx.known_at (f := 32)); (case h => (intro W hW; (change Gives Try.prog _ _ _ _); with_reducible exact rx_add f.fq f.fq f4 W)); (case' hk => skip)) | ((with_reducible apply Sx.asks_at (f := 32)); (case h => (intro W hW; (change Gives Try.prog _ _ _ _); with_reducible exact rx_add f.fq f.fq f4 W)); (case' hk => skip)) | ((with_reducible apply Sx.known_at (f := 46)); (case h => (intro W hW; (change Gives Try.prog _ _ _ _); with_reducible exact rx_divmod f3 f4 ne W)); (case' hk => skip)) | ((with_reducible apply Sx.asks_at (f := 46)); (case h => (intro W hW; (change Gives Try.prog _ _ _ _); with_reducible exact rx_divmod f3 f4 ne W)); (case' hk => skip)))
theorem sg_beq (z y : Int) : (sg z == sg y) = decide ((z < 0) ↔ (y < 0)) := by
  unfold sg
  by_cases h : z < 0 <;> by_cases h' : y < 0 <;> simp [h, h']
theorem mn_sg {z y : Int} (hy : y ≠ 0) : ((z < 0 ↔ y < 0) → mn z y = ab z / gc z y) ∧ (¬ (z < 0 ↔ y < 0) → mn z y = -(ab z / gc z y)) := by
  have hd : gc z y ∣ z := gc_dvd_l z y
  unfold mn ab
  by_cases h : z < 0 <;> by_cases h' : y < 0 <;> simp only [h, h', if_true, if_false, iff_true, iff_false, not_true_eq_false, not_false_eq_true, false_implies, true_implies, and_true, true_and, forall_const]
  · rw [Int.neg_ediv_of_dvd hd, Int.neg_neg]
  · exact Int.neg_ediv_of_dvd hd
set_option maxRecDepth 100000 in
theorem rx_rmake {v v' : Value} {b b' : Bool} {z y : Int} (h : RW v b z) (h' : RW v' b' y) (W : World) : Gives Try.prog 20 [v, v'] W (· = mkV (b && b') z y) := by
  refine gives_known en_r03_Make ?_
  have v1 := fun W => ry_valid h W
  have v2 := fun W => ry_valid h' W
  have s2 := fun W => rg_sign h'.is W
  by_cases hbad : b = false ∨ b' = false ∨ y = 0
  · have e : mkV (b && b') z y = .tuple #[RX 0 0, .bool false] := by
      unfold mkV mok
      rcases hbad with rfl | rfl | rfl
      · rfl
      · rw [Bool.and_false]; rfl
      · rw [if_neg (by simp)]
    rw [e]
    obtain ⟨c0, c1, c2, c3, c4, rfl⟩ := h.five
    obtain ⟨d0, d1, d2, d3, d4, rfl⟩ := h'.five
    have hcm := cm_zero_iff y
    clear e h h'
    cases b
    · refine Sx.known_of (r03_Make_start (args := [_, _]) (by simp) ?_)
      repeat' (first | (simp (disch := omega) only [Sx.sxE, r03_Make_E, Nat.reduceAdd, Nat.reduceEqDiff, Nat.reduceMul, Nat.reduceSub, Int.reduceAdd, Int.reduceSub, Int.reduceMul, Int.reduceNeg, Int.reduceLT, Int.reduceLE, Int.reduceEq, Int.reduceToNat, ↓reduceIte, decide_true, decide_false, true_and, and_true, not_false_eq_true, not_true_eq_false, Bool.not_true, Bool.not_false, Bool.not_not, Int.cast_ofNat_Int, Int.toNat_natCast, Int.reducePow, ne_eq, eq_self, and_self, Nat.le_refl, Nat.reduceLeDiff, Nat.reduceLT, Bool.false_eq_true, List.length_cons, List.length_nil, qxE]) | ((with_reducible apply Sx.known_at (f := 57)); (case h => (intro W hW; (change Gives Try.prog _ _ _ _); with_reducible exact v1 W)); (case' hk => skip)) | ((with_reducible apply Sx.asks_at (f := 57)); (case h => (intro W hW; (change Gives Try.prog _ _ _ _); with_reducible exact v1 W)); (case' hk => skip)))
    · cases b'
      · refine Sx.known_of (r03_Make_start (args := [_, _]) (by simp) ?_)
        repeat' (first | (simp (disch := omega) only [Sx.sxE, r03_Make_E, Nat.reduceAdd, Nat.reduceEqDiff, Nat.reduceMul, Nat.reduceSub, Int.reduceAdd, Int.reduceSub, Int.reduceMul, Int.reduceNeg, Int.reduceLT, Int.reduceLE, Int.reduceEq, Int.reduceToNat, ↓reduceIte, decide_true, decide_false, true_and, and_true, not_false_eq_true, not_true_eq_false, Bool.not_true, Bool.not_false, Bool.not_not, Int.cast_ofNat_Int, Int.toNat_natCast, Int.reducePow, ne_eq, eq_self, and_self, Nat.le_refl, Nat.reduceLeDiff, Nat.reduceLT, Bool.false_eq_true, List.length_cons, List.length_nil, qxE]) | ((with_reducible apply Sx.known_at (f := 57)); (case h => (intro W hW; (change Gives Try.prog _ _ _ _); with_reducible exact v1 W)); (case' hk => skip)) | ((with_reducible apply Sx.asks_at (f := 57)); (case h => (intro W hW; (change Gives Try.prog _ _ _ _); with_reducible exact v1 W)); (case' hk => skip)) | ((with_reducible apply Sx.known_at (f := 57)); (case h => (intro W hW; (change Gives Try.prog _ _ _ _); with_reducible exact v2 W)); (case' hk => skip)) | ((with_reducible apply Sx.asks_at (f := 57)); (case h => (intro W hW; (change Gives Try.prog _ _ _ _); with_reducible exact v2 W)); (case' hk => skip)))
      · have hc0 : cm y 0 = 0 := hcm.2 (by rcases hbad with h | h | h; cases h; cases h; exact h)
        clear hcm hbad
        refine Sx.known_of (r03_Make_start (args := [_, _]) (by simp) ?_)
        repeat' (first | (simp (disch := omega) only [Sx.sxE, r03_Make_E, Nat.reduceAdd, Nat.reduceEqDiff, Nat.reduceMul, Nat.reduceSub, Int.reduceAdd, Int.reduceSub, Int.reduceMul, Int.reduceNeg, Int.reduceLT, Int.reduceLE, Int.reduceEq, Int.reduceToNat, ↓reduceIte, decide_true, decide_false, true_and, and_true, not_false_eq_true, not_true_eq_false, Bool.not_true, Bool.not_false, Bool.not_not, Int.cast_ofNat_Int, Int.toNat_natCast, Int.reducePow, ne_eq, eq_self, and_self, Nat.le_refl, Nat.reduceLeDiff, Nat.reduceLT, Bool.false_eq_true, List.length_cons, List.length_nil, qxE, hc0]) | ((with_reducible apply Sx.known_at (f := 57)); (case h => (intro W hW; (change Gives Try.prog _ _ _ _); with_reducible exact v1 W)); (case' hk => skip)) | ((with_reducible apply Sx.asks_at (f := 57)); (case h => (intro W hW; (change Gives Try.prog _ _ _ _); with_reducible exact v1 W)); (case' hk => skip)) | ((with_reducible apply Sx.known_at (f := 57)); (case h => (intro W hW; (change Gives Try.prog _ _ _ _); with_reducible exact v2 W)); (case' hk => skip)) | ((with_reducible apply Sx.asks_at (f := 57)); (case h => (intro W hW; (change Gives Try.prog _ _ _ _); with_reducible exact v2 W)); (case' hk => skip)) | ((with_reducible apply Sx.known_at (f := 47)); (case h => (intro W hW; (change Gives Try.prog _ _ _ _); with_reducible exact s2 W)); (case' hk => skip)) | ((with_reducible apply Sx.asks_at (f := 47)); (case h => (intro W hW; (change Gives Try.prog _ _ _ _); with_reducible exact s2 W)); (case' hk => skip)))
  · obtain ⟨rfl, rfl⟩ : b = true ∧ b' = true := by
      cases b
      · exact absurd (.inl rfl) hbad
      · cases b'
        · exact absurd (.inr (.inl rfl)) hbad
        · exact ⟨rfl, rfl⟩
    have hy : y ≠ 0 := fun e => hbad (.inr (.inr e))
    rcases h with ⟨-, rfl, h⟩ | ⟨h, -, -⟩
    rotate_left
    · cases h
    rcases h' with ⟨-, rfl, h'⟩ | ⟨h', -, -⟩
    rotate_left
    · cases h'
    have hc0 : cm y 0 ≠ 0 := fun e => hy ((cm_zero_iff y).1 e)
    have f1 := fits_mn h hy
    have f2 := fits_mD (z := z) h' hy
    have a1 := fits_ab h
    have a2 := fits_ab h'
    have hg := fits_gc h h'
    have hgp := gc_pos (x := z) hy
    have hgn : gc z y ≠ 0 := by omega
    have e : mkV (true && true) z y = if rok true (mn z y) (mD z y) = true then .tuple #[RX (mn z y) (mD z y), .bool true] else .tuple #[RX 0 0, .bool false] := by
      unfold mkV mok rok
      rw [decide_eq_false hy, decide_eq_true (mk_pos hy), decide_eq_true (mk_gc hy)]
      simp only [Bool.and_true, Bool.true_and, Bool.not_false]
    rw [e]
    have k1 := fun W => rx_rvalid f1 f2 W
    generalize rok true (mn z y) (mD z y) = t at *
    clear e hbad
    have sb := sg_beq z y
    have gg := fun W => rx_gcd a1 a2 (ab_nonneg z) (ab_nonneg y) W
    rw [gc_abs] at gg
    have d1 := fun W => rx_divmod a1 hg hgn W
    have d2 := fun W => rx_divmod a2 hg hgn W
    have e2 : ab y / gc z y = mD z y := rfl
    rw [e2] at d2
    have f3 := fits_ediv a1 hgn
    obtain ⟨m1, m2⟩ := mn_sg (z := z) hy
    by_cases hs : (z < 0 ↔ y < 0)
    · have e1 := m1 hs
      rw [e1] at k1 f1 ⊢
      rw [decide_eq_true hs] at sb
      clear m1 m2 e1 e2 hs
      generalize ab z / gc z y = N at *
      generalize mD z y = D at *
      generalize gc z y = G at *
      cases t
      all_goals
        refine Sx.known_of (r03_Make_start (args := [_, _]) (by simp) ?_)
        repeat' (first | (simp (disch := omega) only [Sx.sxE, r03_Make_E, Nat.reduceAdd, Nat.reduceEqDiff, Nat.reduceMul, Nat.reduceSub, Int.reduceAdd, Int.reduceSub, Int.reduceMul, Int.reduceNeg, Int.reduceLT, Int.reduceLE, Int.reduceEq, Int.reduceToNat, ↓reduceIte, decide_true, decide_false, true_and, and_true, not_false_eq_true, not_true_eq_false, Bool.not_true, Bool.not_false, Bool.not_not, Int.cast_ofNat_Int, Int.toNat_natCast, Int.reducePow, ne_eq, eq_self, and_self, Nat.le_refl, Nat.reduceLeDiff, Nat.reduceLT, Bool.false_eq_true, List.length_cons, List.length_nil, qxE, sb]) | ((with_reducible apply Sx.known_at (f := 57)); (case h => (intro W hW; (change Gives Try.prog _ _ _ _); with_reducible exact v1 W)); (case' hk => skip)) | ((with_reducible apply Sx.asks_at (f := 57)); (case h => (intro W hW; (change Gives Try.prog _ _ _ _); with_reducible exact v1 W)); (case' hk => skip)) | ((with_reducible apply Sx.known_at (f := 57)); (case h => (intro W hW; (change Gives Try.prog _ _ _ _); with_reducible exact v2 W)); (case' hk => skip)) | ((with_reducible apply Sx.asks_at (f := 57)); (case h => (intro W hW; (change Gives Try.prog _ _ _ _); with_reducible exact v2 W)); (case' hk => skip)) | ((with_reducible apply Sx.known_at (f := 47)); (case h => (intro W hW; (change Gives Try.prog _ _ _ _); with_reducible exact s2 W)); (case' hk => skip)) | ((with_reducible apply Sx.asks_at (f := 47)); (case h => (intro W hW; (change Gives Try.prog _ _ _ _); with_reducible exact s2 W)); (case' hk => skip)) | ((with_reducible apply Sx.known_at (f := 59)); (case h => (intro W hW; (change Gives Try.prog _ _ _ _); with_reducible exact rx_abs W)); (case' hk => skip)) | ((with_reducible apply Sx.asks_at (f := 59)); (case h => (intro W hW; (change Gives Try.prog _ _ _ _); with_reducible exact rx_abs W)); (case' hk => skip)) | ((with_reducible apply Sx.known_at (f := 58)); (case h => (intro W hW; (change Gives Try.prog _ _ _ _); with_reducible exact gg W)); (case' hk => skip)) | ((with_reducible apply Sx.asks_at (f := 58)); (case h => (intro W hW; (change Gives Try.prog _ _ _ _); with_reducible exact gg W)); (case' hk => skip)) | ((with_reducible apply Sx.known_at (f := 46)); (case h => (intro W hW; (change Gives Try.prog _ _ _ _); with_reducible exact d1 W)); (case' hk => skip)) | ((with_reducible apply Sx.asks_at (f := 46)); (case h => (intro W hW; (change Gives Try.prog _ _ _ _); with_reducible exact d1 W)); (case' hk => skip)) | ((with_reducible apply Sx.known_at (f := 46)); (case h => (intro W hW; (change Gives Try.prog _ _ _ _); with_reducible exact d2 W)); (case' hk => skip)) | ((with_reducible apply Sx.asks_at (f := 46)); (case h => (intro W hW; (change Gives Try.prog _ _ _ _); with_reducible exact d2 W)); (case' hk => skip)) | ((with_reducible apply Sx.known_at (f := 42)); (case h => (intro W hW; (change Gives Try.prog _ _ _ _); with_reducible exact k1 W)); (case' hk => skip)) | ((with_reducible apply Sx.asks_at (f := 42)); (case h => (intro W hW; (change Gives Try.prog _ _ _ _); with_reducible exact k1 W)); (case' hk => skip)))
        try rfl
    · have e1 := m2 hs
      rw [e1] at k1 f1 ⊢
      rw [decide_eq_false hs] at sb
      clear m1 m2 e1 e2 hs
      generalize ab z / gc z y = N at *
      generalize mD z y = D at *
      generalize gc z y = G at *
      cases t
      all_goals
        refine Sx.known_of (r03_Make_start (args := [_, _]) (by simp) ?_)
        repeat' (first | (simp (disch := omega) only [Sx.sxE, r03_Make_E, Nat.reduceAdd, Nat.reduceEqDiff, Nat.reduceMul, Nat.reduceSub, Int.reduceAdd, Int.reduceSub, Int.reduceMul, Int.reduceNeg, Int.reduceLT, Int.reduceLE, Int.reduceEq, Int.reduceToNat, ↓reduceIte, decide_true, decide_false, true_and, and_true, not_false_eq_true, not_true_eq_false, Bool.not_true, Bool.not_false, Bool.not_not, Int.cast_ofNat_Int, Int.toNat_natCast, Int.reducePow, ne_eq, eq_self, and_self, Nat.le_refl, Nat.reduceLeDiff, Nat.reduceLT, Bool.false_eq_true, List.length_cons, List.length_nil, qxE, sb]) | ((with_reducible apply Sx.known_at (f := 57)); (case h => (intro W hW; (change Gives Try.prog _ _ _ _); with_reducible exact v1 W)); (case' hk => skip)) | ((with_reducible apply Sx.asks_at (f := 57)); (case h => (intro W hW; (change Gives Try.prog _ _ _ _); with_reducible exact v1 W)); (case' hk => skip)) | ((with_reducible apply Sx.known_at (f := 57)); (case h => (intro W hW; (change Gives Try.prog _ _ _ _); with_reducible exact v2 W)); (case' hk => skip)) | ((with_reducible apply Sx.asks_at (f := 57)); (case h => (intro W hW; (change Gives Try.prog _ _ _ _); with_reducible exact v2 W)); (case' hk => skip)) | ((with_reducible apply Sx.known_at (f := 47)); (case h => (intro W hW; (change Gives Try.prog _ _ _ _); with_reducible exact s2 W)); (case' hk => skip)) | ((with_reducible apply Sx.asks_at (f := 47)); (case h => (intro W hW; (change Gives Try.prog _ _ _ _); with_reducible exact s2 W)); (case' hk => skip)) | ((with_reducible apply Sx.known_at (f := 59)); (case h => (intro W hW; (change Gives Try.prog _ _ _ _); with_reducible exact rx_abs W)); (case' hk => skip)) | ((with_reducible apply Sx.asks_at (f := 59)); (case h => (intro W hW; (change Gives Try.prog _ _ _ _); with_reducible exact rx_abs W)); (case' hk => skip)) | ((with_reducible apply Sx.known_at (f := 58)); (case h => (intro W hW; (change Gives Try.prog _ _ _ _); with_reducible exact gg W)); (case' hk => skip)) | ((with_reducible apply Sx.asks_at (f := 58)); (case h => (intro W hW; (change Gives Try.prog _ _ _ _); with_reducible exact gg W)); (case' hk => skip)) | ((with_reducible apply Sx.known_at (f := 46)); (case h => (intro W hW; (change Gives Try.prog _ _ _ _); with_reducible exact d1 W)); (case' hk => skip)) | ((with_reducible apply Sx.asks_at (f := 46)); (case h => (intro W hW; (change Gives Try.prog _ _ _ _); with_reducible exact d1 W)); (case' hk => skip)) | ((with_reducible apply Sx.known_at (f := 46)); (case h => (intro W hW; (change Gives Try.prog _ _ _ _); with_reducible exact d2 W)); (case' hk => skip)) | ((with_reducible apply Sx.asks_at (f := 46)); (case h => (intro W hW; (change Gives Try.prog _ _ _ _); with_reducible exact d2 W)); (case' hk => skip)) | ((with_reducible apply Sx.known_at (f := 48)); (case h => (intro W hW; (change Gives Try.prog _ _ _ _); with_reducible exact rx_neg f3 W)); (case' hk => skip)) | ((with_reducible apply Sx.asks_at (f := 48)); (case h => (intro W hW; (change Gives Try.prog _ _ _ _); with_reducible exact rx_neg f3 W)); (case' hk => skip)) | ((with_reducible apply Sx.known_at (f := 42)); (case h => (intro W hW; (change Gives Try.prog _ _ _ _); with_reducible exact k1 W)); (case' hk => skip)) | ((with_reducible apply Sx.asks_at (f := 42)); (case h => (intro W hW; (change Gives Try.prog _ _ _ _); with_reducible exact k1 W)); (case' hk => skip)))
        try rfl
end Go.Proofs.Ytlanoclibdhpmaa

/- Tp: A symbolic run: calls that move a tape. -/
namespace Go.Proofs.Ytlanoclibdhpmaa
open Go Go.RowKit Sx
set_option linter.unusedVariables false
set_option linter.unusedSimpArgs false
namespace Sx
variable {C : Cx} {S : St} {K : St → Prop} {d : Option Nat}
/-- What is known of a tape in the caller's world w: it is a tape, and nothing else of w has turned. -/
def hK (w : World) (tb B Bm : Nat) : KnG where
  bs := List.range' tb (w.heap.size - tb)
  ok n W := n = tb ∧ (tb < w.heap.size ∧ B ≤ w.heap.size) ∧ TapeOk B Bm W tb ∧ w.heap.size ≤ W.heap.size ∧ ∀ i, i < w.heap.size → i ≠ tb → W.heap[i]? = w.heap[i]?
  lt := fun {n W} h b hb => by
    obtain ⟨h0, ⟨h1, h1b⟩, h2, h3, -⟩ := h
    rw [List.mem_range'] at hb
    obtain ⟨i, hi, rfl⟩ := hb
    omega
  keep := fun {n W W'} h hs hb ho => by
    obtain ⟨h0, ⟨hw, hB⟩, ⟨a, len, cap, k, h1, h2, h3, h4, h5, h6, h7, h8⟩, hsz, hg⟩ := h
    have all : ∀ i, i < w.heap.size → W'.heap[i]? = W.heap[i]? := fun i hi => by
      rcases Nat.lt_or_ge i tb with h | h
      · exact ho i (by omega) (by omega)
      · exact hb i (List.mem_range'.2 ⟨i - tb, by omega, by omega⟩)
    have ht := all tb hw
    refine ⟨h0, ⟨hw, hB⟩, ⟨a, len, cap, k, h1, Nat.le_trans h2 hs, (World.cell?_of_block (a := ⟨tb, 0, none⟩) ht).trans h3, (World.cell?_of_block (a := ⟨tb, 1, none⟩) ht).trans h4, (World.frozen?_of_block (a := ⟨tb, 1, none⟩) ht).trans h5, h6, h7, fun hl => ?_⟩, Nat.le_trans hsz hs, fun i hi hn => (all i hi).trans (hg i hi hn)⟩
    obtain ⟨bb, off, e, hne, hlt, hlm, hc⟩ := h8 hl
    refine ⟨bb, off, e, hne, hlt, hlm, fun i hi => ?_⟩
    obtain ⟨x, hx, hix⟩ := hc i hi
    exact ⟨x, (World.cell?_of_block (a := ⟨bb, off + i, none⟩) (all bb (by omega))).trans hx, hix⟩
/-- It tells of the tape in block tb, and goes on behind calls that move it. -/
structure TpK (k : KnG) (n tb B Bm : Nat) : Prop where
  tape : ∀ {W}, k.ok n W → TapeOk B Bm W tb
  go : ∀ {W W'}, k.ok n W → TapeOk B Bm W' tb → W.grownBy W' (some tb) → k.ok n W'
  ge : ∀ {W}, k.ok n W → n ≤ tb
  mem : ∀ {W}, k.ok n W → tb ∈ k.bs
theorem tpk_t (n tb : Nat) : TpK (tK tb) n tb (tb + 1) n where
  tape h := h.2
  go h ht hg := ⟨h.1, ht⟩
  ge h := h.1
  mem h := List.mem_singleton.2 rfl
theorem tpk_h (w : World) (tb B Bm : Nat) : TpK (hK w tb B Bm) tb tb B Bm where
  tape h := h.2.2.1
  go h ht hg := ⟨h.1, h.2.1, ht, Nat.le_trans h.2.2.2.1 hg.size, fun i hi hn => (hg.block i (Nat.lt_of_lt_of_le hi h.2.2.2.1) (fun e => hn (Option.some.inj e))).trans (h.2.2.2.2 i hi hn)⟩
  ge h := Nat.le_of_eq h.1
  mem h := List.mem_range'.2 ⟨0, by have := h.2.1; omega, by omega⟩
/-- A call that moves the tape and nothing else that is known. -/
theorem asks_tp {f : FuncId} {l : List Value} {L : List Kn} {ι : Type} {P : ι → Prop} {k : KnG} {tb B Bm : Nat} (v : ι → Value) (hk : TpK k C.w0.heap.size tb B Bm) (he : ∀ (l : Array Value) W, (callFunc f l).run C.P W = .ok (.enter f l) W) (hT : S.T = kX C.w0.heap.size L) (hm : .g k ∈ L) (hmv : C.mv S = S.T.bs)
    (hL : ∀ j ∈ L, j = .g k ∨ tb ∉ j.bs)
    (h : ∀ W, TapeOk B Bm W tb → Calls C.P f l.toArray W fun e w' => ∃ i, P i ∧ e = .returned (v i) ∧ TapeOk B Bm w' tb ∧ W.grownBy w' (some tb))
    (hK : ∀ i, P i → K (St.put S d (.v (v i)))) : asks C f l d K S := by
  refine asks_T (ι := {i // P i}) (fun i => v i.1) (fun _ => S.T) (fun W hW hok hbs => givesT_calls he (fun i => by rw [hT]; exact kX_stab C L) ?_) (fun i => hK i.1 i.2)
  rw [hT] at hok
  have ho : k.ok C.w0.heap.size W := hok _ hm
  refine (h W (hk.tape ho)).mono fun e w' ⟨i, hi, he, h1, h2⟩ => ⟨⟨i, hi⟩, he, ⟨h2.os, h2.tape, h2.output, h2.size, fun j hj hn => h2.block j hj fun e => hn (by cases e; rw [hmv, hT]; exact kX_bs.2 ⟨_, hm, hk.mem ho⟩)⟩, ?_, fun b hb => ⟨.inl hb, ?_⟩⟩
  · rw [hT]
    intro j hj
    rcases hL j hj with rfl | hb
    · exact hk.go ho h1 h2
    · refine (hok j hj).keep h2.size (fun b hbb => h2.block b ((hok j hj).lt b hbb).2 fun e => hb (by cases e; exact hbb)) fun b hbn hbl => h2.block b hbl fun e => ?_
      have := hk.ge ho
      have e2 : b = tb := Option.some.inj e
      omega
  · rw [hT] at hb
    exact Nat.lt_of_lt_of_le (kX_lt hok b hb).2 h2.size
/-- The start of a function that is given a tape. -/
theorem hK_start {w : World} {tb B Bm : Nat} (h : TapeOk B Bm w tb) : (kX (cut w tb).heap.size [.g (hK w tb B Bm)]).ok w ∧ ∀ b ∈ (kX (cut w tb).heap.size [.g (hK w tb B Bm)]).bs, (cut w tb).heap.size ≤ b ∧ b < w.heap.size := by
  have hc := cut_size (Nat.le_of_lt h.lt)
  have h1 : (kX (cut w tb).heap.size [.g (hK w tb B Bm)]).ok w := fun k hk => by
    rw [List.mem_singleton.1 hk]
    exact ⟨hc, ⟨h.lt, h.leB⟩, h, Nat.le_refl _, fun _ _ _ => rfl⟩
  exact ⟨h1, kX_lt h1⟩
theorem hK_end {w w' : World} {tb B Bm : Nat} {L : List Kn} (h : (kX (cut w tb).heap.size L).ok w') (hm : .g (hK w tb B Bm) ∈ L) (hb : Below (cut w tb).heap.size (cut w tb) w') : TapeOk B Bm w' tb ∧ w.grownBy w' (some tb) := by
  have hk : (hK w tb B Bm).ok (cut w tb).heap.size w' := h _ hm
  exact ⟨hk.2.2.1, hb.os, hb.tape, hb.output, hk.2.2.2.1, fun i hi hn => hk.2.2.2.2 i hi fun e => hn (by rw [e])⟩
theorem tpk_h' {w : World} {tb B Bm : Nat} (h : TapeOk B Bm w tb) : TpK (hK w tb B Bm) (cut w tb).heap.size tb B Bm := by
  rw [cut_size (Nat.le_of_lt h.lt)]; exact tpk_h w tb B Bm
end Sx
/-- What a call that moves the tape in block tb gives. -/
def TpC (f : FuncId) (l : List Value) (tb : Nat) {ι : Type} (P : ι → Prop) (v : ι → Value) : Prop := ∀ {B Bm : Nat} (W : World), TapeOk B Bm W tb → Calls Try.prog f l.toArray W fun e w' => ∃ i, P i ∧ e = .returned (v i) ∧ TapeOk B Bm w' tb ∧ W.grownBy w' (some tb)
theorem t_next (tb : Nat) {n : Int} (h1 : 1 ≤ n) (h2 : n ≤ 1000000) : TpC 18 [.pointer (some ⟨tb, 0, none⟩), .int .i64 n] tb (fun r : Int => 0 ≤ r ∧ r < n) (fun r => .int .i64 r) :=
  fun W h => (next_in tb n h1 h2 W h).mono fun e w' ⟨r, a, b, c, d⟩ => ⟨r, a, b, c, d⟩
theorem t_bool (tb : Nat) {n : Int} (h1 : 2 ≤ n) (h2 : n ≤ 1000) : TpC 49 [.pointer (some ⟨tb, 0, none⟩), .int .i64 n] tb (fun _ : Bool => True) (fun r => .bool r) :=
  fun W h => (bool_any tb n h1 h2 W h).mono fun e w' ⟨r, b, c, d⟩ => ⟨r, trivial, b, c, d⟩
theorem t_word (tb : Nat) : TpC 35 [.pointer (some ⟨tb, 0, none⟩)] tb U64 (fun r => .int .u64 r) :=
  fun W h => (word_any tb W h).mono fun e w' ⟨r, a, b, c, d⟩ => ⟨r, a, b, c, d⟩
theorem t_int (tb : Nat) : TpC 17 [.pointer (some ⟨tb, 0, none⟩)] tb I64 (fun r => .int .i64 r) :=
  fun W h => (int_any tb W h).mono fun e w' ⟨r, a, b, c, d⟩ => ⟨r, a, b, c, d⟩
/-- A raw Wide by its cells. -/
structure RC where
  c0 : Value
  c1 : Value
  c2 : Value
  c3 : Value
  c4 : Value
def RC.v (c : RC) : Value := .agg #[c.c0, c.c1, c.c2, c.c3, c.c4]
theorem t_wide (tb : Nat) : TpC 15 [.pointer (some ⟨tb, 0, none⟩)] tb (fun c : RC => ∃ t z, RW (.agg #[c.c0, c.c1, c.c2, c.c3, c.c4]) t z) (fun c => .agg #[c.c0, c.c1, c.c2, c.c3, c.c4]) :=
  fun W h => (twide_any tb W h).mono fun e w' ⟨n, a, b, c, d, ha, hb, hc, hd, he, h1, h2⟩ => ⟨⟨.bool n, .int .u64 a, .int .u64 b, .int .u64 c, .int .u64 d⟩, rw_raw n ha hb hc hd, he, h1, h2⟩
theorem asks_tc {C : Cx} {S : St} {K : St → Prop} {d : Option Nat} {f : FuncId} {l : List Value} {L : List Kn} {ι : Type} {P : ι → Prop} {v : ι → Value} {k : KnG} {tb B Bm : Nat} (hP : C.P = Try.prog) (hk : TpK k C.w0.heap.size tb B Bm) (h : TpC f l tb P v) (he : ∀ (l : Array Value) W, (callFunc f l).run Try.prog W = .ok (.enter f l) W) (hT : S.T = kX C.w0.heap.size L) (hm : .g k ∈ L) (hmv : C.mv S = S.T.bs)
    (hL : ∀ j ∈ L, j = .g k ∨ tb ∉ j.bs) (hK : ∀ i, P i → K (St.put S d (.v (v i)))) : asks C f l d K S :=
  asks_tp v hk (by rw [hP]; exact he) hT hm hmv hL (fun W hW => by rw [hP]; exact h W hW) hK
end Go.Proofs.Ytlanoclibdhpmaa

/- CdT: MADE BY PROGRAM (sxgen.py): the small code of some functions, points of it and their equations. -/
namespace Go.Proofs.Ytlanoclibdhpmaa
open Go Go.RowKit Sx
set_option linter.unusedVariables false
variable (C : Cx) (R L1 L2 L3 L4 : St → Prop)
def m_Tape__Ratio_r0 : List G := [(some 2, none, (.new zR))]
def m_Tape__Ratio_c2 : MC := (.reg m_Tape__Ratio_r0 (some [0, 2]))
def m_Tape__Ratio_r1 : List G := [(some 7, none, (.mv (.tmp 0))), (some 8, none, (.call false 18 [(.tmp 7), (.const (.int .i64 200))])), (some 9, none, (.bin .sub (.tmp 8) (.const (.int .i64 100)))), (some 10, none, (.call false 16 [(.tmp 9)])), (some 11, none, (.mv (.tmp 0))), (some 12, none, (.call false 18 [(.tmp 11), (.const (.int .i64 60))])), (some 13, none, (.bin .add (.const (.int .i64 1)) (.tmp 12))), (some 14, none, (.call false 16 [(.tmp 13)])), (some 3, none, (.new zW)), (some 4, none, (.new zW)), (none, none, (.st true 5 (.tmp 3) (.tmp 10))), (none, none, (.st true 5 (.tmp 4) (.tmp 14)))]
def m_Tape__Ratio_c4 : MC := (.reg m_Tape__Ratio_r1 (some [0, 2, 3, 4]))
def m_Tape__Ratio_r2 : List G := [(some 15, none, (.mv (.tmp 0))), (some 16, none, (.call false 49 [(.tmp 15), (.const (.int .i64 4))]))]
def m_Tape__Ratio_c7 : MC := (.reg m_Tape__Ratio_r2 (some [0, 2, 3, 4, 16]))
def m_Tape__Ratio_r3 : List G := [(some 17, none, (.mv (.tmp 0))), (some 18, none, (.call false 17 [(.tmp 17)])), (some 19, none, (.call false 16 [(.tmp 18)])), (some 20, none, (.mv (.tmp 0))), (some 21, none, (.call false 35 [(.tmp 20)])), (some 22, none, (.bin .or (.tmp 21) (.const (.int .u64 1)))), (some 23, none, (.call false 31 [(.tmp 22)])), (none, none, (.st true 5 (.tmp 3) (.tmp 19))), (none, none, (.st true 5 (.tmp 4) (.tmp 23)))]
def m_Tape__Ratio_c9 : MC := (.reg m_Tape__Ratio_r3 (some [0, 2, 3, 4]))
def m_Tape__Ratio_c8 : MC := (.cond (.tmp 16) m_Tape__Ratio_c9 .skip)
def m_Tape__Ratio_c6 : MC := (.seq m_Tape__Ratio_c7 m_Tape__Ratio_c8)
def m_Tape__Ratio_r4 : List G := [(some 24, none, (.mv (.tmp 0))), (some 25, none, (.call false 49 [(.tmp 24), (.const (.int .i64 8))]))]
def m_Tape__Ratio_c12 : MC := (.reg m_Tape__Ratio_r4 (some [2, 3, 4, 25]))
def m_Tape__Ratio_r5 : List G := [(some 27, none, (.ld true 5 (.tmp 3))), (some 28, none, (.call true 16 [(.const (.int .i64 4611686018427387904))])), (some 29, none, (.call true 29 [(.tmp 27), (.tmp 28)])), (some 26, none, (.mv (.tmp 29))), (some 30, none, (.ex (.tmp 26) 0)), (some 31, none, (.ex (.tmp 26) 1))]
def m_Tape__Ratio_t5 : List G := [(none, none, (.st true 5 (.tmp 3) (.tmp 30)))]
def m_Tape__Ratio_c14 : MC := (.dreg m_Tape__Ratio_r5 m_Tape__Ratio_t5 (some [2, 3, 4]))
def m_Tape__Ratio_c13 : MC := (.cond (.tmp 25) m_Tape__Ratio_c14 .skip)
def m_Tape__Ratio_c11 : MC := (.seq m_Tape__Ratio_c12 m_Tape__Ratio_c13)
def m_Tape__Ratio_r6 : List G := [(some 33, none, (.ld true 5 (.tmp 3))), (some 34, none, (.ld true 5 (.tmp 4))), (some 35, none, (.call false 20 [(.tmp 33), (.tmp 34)])), (some 32, none, (.mv (.tmp 35))), (some 36, none, (.ex (.tmp 32) 0)), (some 37, none, (.ex (.tmp 32) 1)), (some 5, none, (.new zR)), (none, none, (.st true 10 (.tmp 5) (.tmp 36))), (some 6, none, (.mv (.tmp 37)))]
def m_Tape__Ratio_c16 : MC := (.reg m_Tape__Ratio_r6 (some [2, 5, 6]))
def m_Tape__Ratio_r7 : List G := [(some 38, none, (.mv (.tmp 6))), (some 39, none, (.un .not (.tmp 38)))]
def m_Tape__Ratio_c19 : MC := (.reg m_Tape__Ratio_r7 (some [2, 5, 39]))
def m_Tape__Ratio_r8 : List G := [(some 40, none, (.call false 37 [(.const (.int .i64 1))])), (none, none, (.st true 10 (.tmp 2) (.tmp 40)))]
def m_Tape__Ratio_c22 : MC := (.reg m_Tape__Ratio_r8 (some [2]))
def m_Tape__Ratio_c21 : MC := (.seq m_Tape__Ratio_c22 .ret)
def m_Tape__Ratio_c20 : MC := (.cond (.tmp 39) m_Tape__Ratio_c21 .skip)
def m_Tape__Ratio_c18 : MC := (.seq m_Tape__Ratio_c19 m_Tape__Ratio_c20)
def m_Tape__Ratio_r9 : List G := [(some 41, none, (.ld true 10 (.tmp 5))), (none, none, (.st true 10 (.tmp 2) (.tmp 41)))]
def m_Tape__Ratio_c24 : MC := (.reg m_Tape__Ratio_r9 (some [2]))
def m_Tape__Ratio_c23 : MC := (.seq m_Tape__Ratio_c24 .ret)
def m_Tape__Ratio_c17 : MC := (.seq m_Tape__Ratio_c18 m_Tape__Ratio_c23)
def m_Tape__Ratio_c15 : MC := (.seq m_Tape__Ratio_c16 m_Tape__Ratio_c17)
def m_Tape__Ratio_c10 : MC := (.seq m_Tape__Ratio_c11 m_Tape__Ratio_c15)
def m_Tape__Ratio_c5 : MC := (.seq m_Tape__Ratio_c6 m_Tape__Ratio_c10)
def m_Tape__Ratio_c3 : MC := (.seq m_Tape__Ratio_c4 m_Tape__Ratio_c5)
def m_Tape__Ratio_c1 : MC := (.seq m_Tape__Ratio_c2 m_Tape__Ratio_c3)
def m_Tape__Ratio_ann : Ann := [(0, (some [0, 2], 0, [], [], [])), (1, (some [0, 2, 3, 4], 0, [], [], [])), (2, (some [0, 2, 3, 4, 16], 0, [], [], [])), (3, (some [0, 2, 3, 4], 0, [], [], [])), (4, (some [2, 3, 4, 25], 0, [], [], [])), (5, (some [2, 3, 4], 6, [5], [(0, 0), (1, 0), (2, 0), (3, 0), (4, 0), (5, 2)], [])), (6, (some [2, 5, 6], 0, [], [], [])), (7, (some [2, 5, 39], 0, [], [], [])), (8, (some [2], 0, [], [], [])), (9, (some [2], 0, [], [], []))]
theorem m_Tape__Ratio_ok : compF Try.prog Try.f23 m_Tape__Ratio_ann = some (42, m_Tape__Ratio_c1, [(2, some (true, 10))]) := by kernel_rfl
def m_Tape__Ratio_p1 : St → Prop := X C m_Tape__Ratio_c24 (thenK R (retK R))
theorem m_Tape__Ratio_p1_e (S : St) : m_Tape__Ratio_p1 C R S = Sx.ops C m_Tape__Ratio_r9 (kq [2] R) S := rfl
def m_Tape__Ratio_p3 : St → Prop := X C m_Tape__Ratio_c22 (thenK R (thenK (m_Tape__Ratio_p1 C R) (retK R)))
theorem m_Tape__Ratio_p3_e (S : St) : m_Tape__Ratio_p3 C R S = Sx.ops C m_Tape__Ratio_r8 (kq [2] R) S := rfl
def m_Tape__Ratio_p2 : St → Prop := X C m_Tape__Ratio_c20 (thenK (m_Tape__Ratio_p1 C R) (retK R))
theorem m_Tape__Ratio_p2_e (S : St) : m_Tape__Ratio_p2 C R S = condX (S.ev (.tmp 39)) (m_Tape__Ratio_p3 C R) (m_Tape__Ratio_p1 C R) S := rfl
def m_Tape__Ratio_p4 : St → Prop := X C m_Tape__Ratio_c19 (thenK (m_Tape__Ratio_p2 C R) (thenK (m_Tape__Ratio_p1 C R) (retK R)))
theorem m_Tape__Ratio_p4_e (S : St) : m_Tape__Ratio_p4 C R S = Sx.ops C m_Tape__Ratio_r7 (kq [2, 5, 39] (m_Tape__Ratio_p2 C R)) S := rfl
def m_Tape__Ratio_p5 : St → Prop := X C m_Tape__Ratio_c16 (thenK (m_Tape__Ratio_p4 C R) (retK R))
theorem m_Tape__Ratio_p5_e (S : St) : m_Tape__Ratio_p5 C R S = Sx.ops C m_Tape__Ratio_r6 (kq [2, 5, 6] (m_Tape__Ratio_p4 C R)) S := rfl
def m_Tape__Ratio_p7 : St → Prop := X C m_Tape__Ratio_c14 (thenK (m_Tape__Ratio_p5 C R) (retK R))
theorem m_Tape__Ratio_p7_e (S : St) : m_Tape__Ratio_p7 C R S = Sx.ops C m_Tape__Ratio_r5 (Sx.ops C m_Tape__Ratio_t5 (kq [2, 3, 4] (m_Tape__Ratio_p5 C R))) S := rfl
def m_Tape__Ratio_p6 : St → Prop := X C m_Tape__Ratio_c13 (thenK (m_Tape__Ratio_p5 C R) (retK R))
theorem m_Tape__Ratio_p6_e (S : St) : m_Tape__Ratio_p6 C R S = condX (S.ev (.tmp 25)) (m_Tape__Ratio_p7 C R) (m_Tape__Ratio_p5 C R) S := rfl
def m_Tape__Ratio_p8 : St → Prop := X C m_Tape__Ratio_c12 (thenK (m_Tape__Ratio_p6 C R) (thenK (m_Tape__Ratio_p5 C R) (retK R)))
theorem m_Tape__Ratio_p8_e (S : St) : m_Tape__Ratio_p8 C R S = Sx.ops C m_Tape__Ratio_r4 (kq [2, 3, 4, 25] (m_Tape__Ratio_p6 C R)) S := rfl
def m_Tape__Ratio_p10 : St → Prop := X C m_Tape__Ratio_c9 (thenK (m_Tape__Ratio_p8 C R) (retK R))
theorem m_Tape__Ratio_p10_e (S : St) : m_Tape__Ratio_p10 C R S = Sx.ops C m_Tape__Ratio_r3 (kq [0, 2, 3, 4] (m_Tape__Ratio_p8 C R)) S := rfl
def m_Tape__Ratio_p9 : St → Prop := X C m_Tape__Ratio_c8 (thenK (m_Tape__Ratio_p8 C R) (retK R))
theorem m_Tape__Ratio_p9_e (S : St) : m_Tape__Ratio_p9 C R S = condX (S.ev (.tmp 16)) (m_Tape__Ratio_p10 C R) (m_Tape__Ratio_p8 C R) S := rfl
def m_Tape__Ratio_p11 : St → Prop := X C m_Tape__Ratio_c7 (thenK (m_Tape__Ratio_p9 C R) (thenK (m_Tape__Ratio_p8 C R) (retK R)))
theorem m_Tape__Ratio_p11_e (S : St) : m_Tape__Ratio_p11 C R S = Sx.ops C m_Tape__Ratio_r2 (kq [0, 2, 3, 4, 16] (m_Tape__Ratio_p9 C R)) S := rfl
def m_Tape__Ratio_p12 : St → Prop := X C m_Tape__Ratio_c4 (thenK (m_Tape__Ratio_p11 C R) (retK R))
theorem m_Tape__Ratio_p12_e (S : St) : m_Tape__Ratio_p12 C R S = Sx.ops C m_Tape__Ratio_r1 (kq [0, 2, 3, 4] (m_Tape__Ratio_p11 C R)) S := rfl
def m_Tape__Ratio_p13 : St → Prop := X C m_Tape__Ratio_c2 (thenK (m_Tape__Ratio_p12 C R) (retK R))
theorem m_Tape__Ratio_p13_e (S : St) : m_Tape__Ratio_p13 C R S = Sx.ops C m_Tape__Ratio_r0 (kq [0, 2] (m_Tape__Ratio_p12 C R)) S := rfl
set_option maxRecDepth 100000 in
theorem m_Tape__Ratio_s (S : St) : X C m_Tape__Ratio_c1 (retK R) S = (m_Tape__Ratio_p13 C R) S := rfl
theorem m_Tape__Ratio_startG {R : Value → Ext → Prop} {args : List Value} {w w0 : World} {T : Ext} : type_of% (enterG (R := R) (args := args) (w := w) (w0 := w0) (T := T) Try.func23 m_Tape__Ratio_ok) := enterG Try.func23 m_Tape__Ratio_ok
theorem m_Tape__Ratio_E : type_of% @m_Tape__Ratio_r9.eq_1 ∧ type_of% @m_Tape__Ratio_p1_e ∧ type_of% @m_Tape__Ratio_r8.eq_1 ∧ type_of% @m_Tape__Ratio_p3_e ∧ type_of% @m_Tape__Ratio_p2_e ∧ type_of% @m_Tape__Ratio_r7.eq_1 ∧ type_of% @m_Tape__Ratio_p4_e ∧ type_of% @m_Tape__Ratio_r6.eq_1 ∧ type_of% @m_Tape__Ratio_p5_e ∧ type_of% @m_Tape__Ratio_r5.eq_1 ∧ type_of% @m_Tape__Ratio_t5.eq_1 ∧ type_of% @m_Tape__Ratio_p7_e ∧ type_of% @m_Tape__Ratio_p6_e ∧ type_of% @m_Tape__Ratio_r4.eq_1 ∧ type_of% @m_Tape__Ratio_p8_e ∧ type_of% @m_Tape__Ratio_r3.eq_1 ∧ type_of% @m_Tape__Ratio_p10_e ∧ type_of% @m_Tape__Ratio_p9_e ∧ type_of% @m_Tape__Ratio_r2.eq_1 ∧ type_of% @m_Tape__Ratio_p11_e ∧ type_of% @m_Tape__Ratio_r1.eq_1 ∧ type_of% @m_Tape__Ratio_p12_e ∧ type_of% @m_Tape__Ratio_r0.eq_1 ∧ type_of% @m_Tape__Ratio_p13_e ∧ type_of% @m_Tape__Ratio_s := ⟨@m_Tape__Ratio_r9.eq_1, @m_Tape__Ratio_p1_e, @m_Tape__Ratio_r8.eq_1, @m_Tape__Ratio_p3_e, @m_Tape__Ratio_p2_e, @m_Tape__Ratio_r7.eq_1, @m_Tape__Ratio_p4_e, @m_Tape__Ratio_r6.eq_1, @m_Tape__Ratio_p5_e, @m_Tape__Ratio_r5.eq_1, @m_Tape__Ratio_t5.eq_1, @m_Tape__Ratio_p7_e, @m_Tape__Ratio_p6_e, @m_Tape__Ratio_r4.eq_1, @m_Tape__Ratio_p8_e, @m_Tape__Ratio_r3.eq_1, @m_Tape__Ratio_p10_e, @m_Tape__Ratio_p9_e, @m_Tape__Ratio_r2.eq_1, @m_Tape__Ratio_p11_e, @m_Tape__Ratio_r1.eq_1, @m_Tape__Ratio_p12_e, @m_Tape__Ratio_r0.eq_1, @m_Tape__Ratio_p13_e, @m_Tape__Ratio_s⟩
end Go.Proofs.Ytlanoclibdhpmaa

/- Tr: What a call of the tape's Ratio gives. -/
namespace Go.Proofs.Ytlanoclibdhpmaa
open Go Go.RowKit Sx
set_option linter.unusedVariables false
set_option linter.unusedSimpArgs false
theorem mkV_cases {b : Bool} {z y : Int} : (mok b z y = true ∧ mkV b z y = .tuple #[RX (mn z y) (mD z y), .bool true]) ∨ (mok b z y = false ∧ mkV b z y = .tuple #[RX 0 0, .bool false]) := by
  unfold mkV
  cases h : mok b z y
  · exact .inr ⟨rfl, rfl⟩
  · exact .inl ⟨rfl, rfl⟩
theorem or_one {x : Int} (h : U64 x) : U64 (IntKind.u64.wrap (BitVec.ofInt IntKind.u64.bits x ||| BitVec.ofInt IntKind.u64.bits 1).toNat) ∧ IntKind.u64.wrap (BitVec.ofInt IntKind.u64.bits x ||| BitVec.ofInt IntKind.u64.bits 1).toNat ≠ 0 := by
  have hlt := (BitVec.ofInt IntKind.u64.bits x ||| BitVec.ofInt IntKind.u64.bits 1).isLt
  have hne : (BitVec.ofInt IntKind.u64.bits x ||| BitVec.ofInt IntKind.u64.bits 1).toNat ≠ 0 := by
    intro e
    rw [BitVec.toNat_or] at e
    have h2 := Nat.or_eq_zero_iff.1 e
    have : (BitVec.ofInt IntKind.u64.bits 1).toNat = 1 := by decide
    omega
  generalize (BitVec.ofInt IntKind.u64.bits x ||| BitVec.ofInt IntKind.u64.bits 1).toNat = n at *
  have hb : (n : Int) < 18446744073709551616 := by
    have : (2 : Nat) ^ IntKind.u64.bits = 18446744073709551616 := by decide
    rw [this] at hlt; omega
  have e : IntKind.u64.wrap (n : Int) = n := IntWalk.u64_in _ (by omega)
  rw [e]
  exact ⟨⟨by omega, by omega⟩, by omega⟩
/-- The Ratio of a valid fraction. -/
def IsR (v : Value) : Prop := ∃ x : Int × Int, Fq x.1 x.2 ∧ v = RX x.1 x.2
set_option maxRecDepth 100000 in
theorem t_ratio (tb : Nat) : TpC 23 [.pointer (some ⟨tb, 0, none⟩)] tb (fun x : Int × Int => Fq x.1 x.2) (fun x => RX x.1 x.2) := by
  intro B Bm w ht
  refine Calls.mono (m_Tape__Ratio_startG (args := [.pointer (some ⟨tb, 0, none⟩)]) (w0 := cut w tb) (T := kX (cut w tb).heap.size [.g (hK w tb B Bm)]) (R := fun v X => (IsR) v ∧ X = kX (cut w tb).heap.size [.g (hK w tb B Bm)]) (by simp) (below_cut (Nat.le_of_lt ht.lt)) (hK_start ht).1 (kX_stab (Sx.cx _ (cut w tb) _) _) (hK_start ht).2 ?run) ?fin; have hk := tpk_h' ht
  case fin =>
    rintro e w' ⟨v, X, rfl, ⟨⟨x, hx, rfl⟩, rfl⟩, hX, hb, -⟩
    obtain ⟨h1, h2⟩ := hK_end hX (List.mem_singleton.2 rfl) hb
    exact ⟨x, hx, rfl, h1, h2⟩
  case run =>
    try dsimp only
    repeat' (first | (simp (disch := omega) only [Sx.sxE, m_Tape__Ratio_E, Nat.reduceAdd, Nat.reduceEqDiff, Nat.reduceMul, Nat.reduceSub, Int.reduceAdd, Int.reduceSub, Int.reduceMul, Int.reduceNeg, Int.reduceLT, Int.reduceLE, Int.reduceEq, Int.reduceToNat, ↓reduceIte, decide_true, decide_false, true_and, and_true, not_false_eq_true, not_true_eq_false, Bool.not_true, Bool.not_false, Bool.not_not, Int.cast_ofNat_Int, Int.toNat_natCast, Int.reducePow, ne_eq, eq_self, and_self, Nat.le_refl, Nat.reduceLeDiff, Nat.reduceLT, Bool.false_eq_true, List.length_cons, List.length_nil, qxE]))
    refine asks_tc rfl (hk) (t_next tb (by decide) (by decide)) en_m_Tape__Next rfl (by first | exact List.mem_singleton.2 rfl | simp) rfl (by first | exact fun j hj => .inl (List.mem_singleton.1 hj) | simp) ?_
    intro r1 ⟨a1, a2⟩
    have i1 : I64 (r1 - 100) := ⟨by omega, by omega⟩
    repeat' (first | (simp (disch := omega) only [Sx.sxE, m_Tape__Ratio_E, Nat.reduceAdd, Nat.reduceEqDiff, Nat.reduceMul, Nat.reduceSub, Int.reduceAdd, Int.reduceSub, Int.reduceMul, Int.reduceNeg, Int.reduceLT, Int.reduceLE, Int.reduceEq, Int.reduceToNat, ↓reduceIte, decide_true, decide_false, true_and, and_true, not_false_eq_true, not_true_eq_false, Bool.not_true, Bool.not_false, Bool.not_not, Int.cast_ofNat_Int, Int.toNat_natCast, Int.reducePow, ne_eq, eq_self, and_self, Nat.le_refl, Nat.reduceLeDiff, Nat.reduceLT, Bool.false_eq_true, List.length_cons, List.length_nil, qxE]) | ((with_reducible apply Sx.known_at (f := 16)); (case h => (intro W hW; (change Gives Try.prog _ _ _ _); with_reducible exact rx_of i1 W)); (case' hk => skip)) | ((with_reducible apply Sx.asks_at (f := 16)); (case h => (intro W hW; (change Gives Try.prog _ _ _ _); with_reducible exact rx_of i1 W)); (case' hk => skip)))
    refine asks_tc rfl (hk) (t_next tb (by decide) (by decide)) en_m_Tape__Next rfl (by first | exact List.mem_singleton.2 rfl | simp) rfl (by first | exact fun j hj => .inl (List.mem_singleton.1 hj) | simp) ?_
    intro r2 ⟨b1, b2⟩
    have i2 : I64 (1 + r2) := ⟨by omega, by omega⟩
    have f1 := (bd_i64 i1).fits
    have f2 := (bd_i64 i2).fits
    repeat' (first | (simp (disch := omega) only [Sx.sxE, m_Tape__Ratio_E, Nat.reduceAdd, Nat.reduceEqDiff, Nat.reduceMul, Nat.reduceSub, Int.reduceAdd, Int.reduceSub, Int.reduceMul, Int.reduceNeg, Int.reduceLT, Int.reduceLE, Int.reduceEq, Int.reduceToNat, ↓reduceIte, decide_true, decide_false, true_and, and_true, not_false_eq_true, not_true_eq_false, Bool.not_true, Bool.not_false, Bool.not_not, Int.cast_ofNat_Int, Int.toNat_natCast, Int.reducePow, ne_eq, eq_self, and_self, Nat.le_refl, Nat.reduceLeDiff, Nat.reduceLT, Bool.false_eq_true, List.length_cons, List.length_nil, qxE]) | ((with_reducible apply Sx.known_at (f := 16)); (case h => (intro W hW; (change Gives Try.prog _ _ _ _); with_reducible exact rx_of i2 W)); (case' hk => skip)) | ((with_reducible apply Sx.asks_at (f := 16)); (case h => (intro W hW; (change Gives Try.prog _ _ _ _); with_reducible exact rx_of i2 W)); (case' hk => skip)))
    have bN := bd_i64 i1
    have bD := bd_i64 i2
    have dne : 1 + r2 ≠ 0 := by omega
    refine asks_tc rfl (hk) (t_bool tb (by decide) (by decide)) en_m_Tape__Bool rfl (by first | exact List.mem_singleton.2 rfl | simp) rfl (by first | exact fun j hj => .inl (List.mem_singleton.1 hj) | simp) ?_
    rintro (_ | _) -
    case' true =>
      repeat' (first | (simp (disch := omega) only [Sx.sxE, m_Tape__Ratio_E, Nat.reduceAdd, Nat.reduceEqDiff, Nat.reduceMul, Nat.reduceSub, Int.reduceAdd, Int.reduceSub, Int.reduceMul, Int.reduceNeg, Int.reduceLT, Int.reduceLE, Int.reduceEq, Int.reduceToNat, ↓reduceIte, decide_true, decide_false, true_and, and_true, not_false_eq_true, not_true_eq_false, Bool.not_true, Bool.not_false, Bool.not_not, Int.cast_ofNat_Int, Int.toNat_natCast, Int.reducePow, ne_eq, eq_self, and_self, Nat.le_refl, Nat.reduceLeDiff, Nat.reduceLT, Bool.false_eq_true, List.length_cons, List.length_nil, qxE]))
      refine asks_tc rfl (hk) (t_int tb) en_m_Tape__Int rfl (by first | exact List.mem_singleton.2 rfl | simp) rfl (by first | exact fun j hj => .inl (List.mem_singleton.1 hj) | simp) ?_
      intro z hz
      clear bN bD dne i1 i2 f1 f2 a1 a2 b1 b2
      repeat' (first | (simp (disch := omega) only [Sx.sxE, m_Tape__Ratio_E, Nat.reduceAdd, Nat.reduceEqDiff, Nat.reduceMul, Nat.reduceSub, Int.reduceAdd, Int.reduceSub, Int.reduceMul, Int.reduceNeg, Int.reduceLT, Int.reduceLE, Int.reduceEq, Int.reduceToNat, ↓reduceIte, decide_true, decide_false, true_and, and_true, not_false_eq_true, not_true_eq_false, Bool.not_true, Bool.not_false, Bool.not_not, Int.cast_ofNat_Int, Int.toNat_natCast, Int.reducePow, ne_eq, eq_self, and_self, Nat.le_refl, Nat.reduceLeDiff, Nat.reduceLT, Bool.false_eq_true, List.length_cons, List.length_nil, qxE]) | ((with_reducible apply Sx.known_at (f := 16)); (case h => (intro W hW; (change Gives Try.prog _ _ _ _); with_reducible exact rx_of hz W)); (case' hk => skip)) | ((with_reducible apply Sx.asks_at (f := 16)); (case h => (intro W hW; (change Gives Try.prog _ _ _ _); with_reducible exact rx_of hz W)); (case' hk => skip)))
      refine asks_tc rfl (hk) (t_word tb) en_m_Tape__Word rfl (by first | exact List.mem_singleton.2 rfl | simp) rfl (by first | exact fun j hj => .inl (List.mem_singleton.1 hj) | simp) ?_
      intro y hy
      obtain ⟨o1, o2⟩ := or_one hy
      have bN := bd_i64 hz
      have bD := bd_u64 o1
      have dne := o2
      have i1 : True := trivial
      have i2 : True := trivial
      have a1 : True := trivial
      have a2 : True := trivial
      have b1 : True := trivial
      have b2 : True := trivial
      have f1 := bN.fits
      have f2 := bD.fits
      repeat' (first | (simp (disch := omega) only [Sx.sxE, m_Tape__Ratio_E, Nat.reduceAdd, Nat.reduceEqDiff, Nat.reduceMul, Nat.reduceSub, Int.reduceAdd, Int.reduceSub, Int.reduceMul, Int.reduceNeg, Int.reduceLT, Int.reduceLE, Int.reduceEq, Int.reduceToNat, ↓reduceIte, decide_true, decide_false, true_and, and_true, not_false_eq_true, not_true_eq_false, Bool.not_true, Bool.not_false, Bool.not_not, Int.cast_ofNat_Int, Int.toNat_natCast, Int.reducePow, ne_eq, eq_self, and_self, Nat.le_refl, Nat.reduceLeDiff, Nat.reduceLT, Bool.false_eq_true, List.length_cons, List.length_nil, qxE]))
      generalize IntKind.u64.wrap (BitVec.ofInt IntKind.u64.bits y ||| BitVec.ofInt IntKind.u64.bits 1).toNat = D at *
      repeat' (first | (simp (disch := omega) only [Sx.sxE, m_Tape__Ratio_E, Nat.reduceAdd, Nat.reduceEqDiff, Nat.reduceMul, Nat.reduceSub, Int.reduceAdd, Int.reduceSub, Int.reduceMul, Int.reduceNeg, Int.reduceLT, Int.reduceLE, Int.reduceEq, Int.reduceToNat, ↓reduceIte, decide_true, decide_false, true_and, and_true, not_false_eq_true, not_true_eq_false, Bool.not_true, Bool.not_false, Bool.not_not, Int.cast_ofNat_Int, Int.toNat_natCast, Int.reducePow, ne_eq, eq_self, and_self, Nat.le_refl, Nat.reduceLeDiff, Nat.reduceLT, Bool.false_eq_true, List.length_cons, List.length_nil, qxE]) | ((with_reducible apply Sx.known_at (f := 31)); (case h => (intro W hW; (change Gives Try.prog _ _ _ _); with_reducible exact rx_ofU o1 W)); (case' hk => skip)) | ((with_reducible apply Sx.asks_at (f := 31)); (case h => (intro W hW; (change Gives Try.prog _ _ _ _); with_reducible exact rx_ofU o1 W)); (case' hk => skip)))
    case' false =>
      repeat' (first | (simp (disch := omega) only [Sx.sxE, m_Tape__Ratio_E, Nat.reduceAdd, Nat.reduceEqDiff, Nat.reduceMul, Nat.reduceSub, Int.reduceAdd, Int.reduceSub, Int.reduceMul, Int.reduceNeg, Int.reduceLT, Int.reduceLE, Int.reduceEq, Int.reduceToNat, ↓reduceIte, decide_true, decide_false, true_and, and_true, not_false_eq_true, not_true_eq_false, Bool.not_true, Bool.not_false, Bool.not_not, Int.cast_ofNat_Int, Int.toNat_natCast, Int.reducePow, ne_eq, eq_self, and_self, Nat.le_refl, Nat.reduceLeDiff, Nat.reduceLT, Bool.false_eq_true, List.length_cons, List.length_nil, qxE]))
    all_goals
      clear i1 i2 a1 a2 b1 b2
      refine asks_tc rfl (hk) (t_bool tb (by decide) (by decide)) en_m_Tape__Bool rfl (by first | exact List.mem_singleton.2 rfl | simp) rfl (by first | exact fun j hj => .inl (List.mem_singleton.1 hj) | simp) ?_
      rintro (_ | _) -
      case' true =>
        have i62 : I64 4611686018427387904 := ⟨by decide, by decide⟩
        have f3 := (bd_mul bN (bd_i64 i62)).fits
        have f62 := (bd_i64 i62).fits
        repeat' (first | (simp (disch := omega) only [Sx.sxE, m_Tape__Ratio_E, Nat.reduceAdd, Nat.reduceEqDiff, Nat.reduceMul, Nat.reduceSub, Int.reduceAdd, Int.reduceSub, Int.reduceMul, Int.reduceNeg, Int.reduceLT, Int.reduceLE, Int.reduceEq, Int.reduceToNat, ↓reduceIte, decide_true, decide_false, true_and, and_true, not_false_eq_true, not_true_eq_false, Bool.not_true, Bool.not_false, Bool.not_not, Int.cast_ofNat_Int, Int.toNat_natCast, Int.reducePow, ne_eq, eq_self, and_self, Nat.le_refl, Nat.reduceLeDiff, Nat.reduceLT, Bool.false_eq_true, List.length_cons, List.length_nil, qxE]) | ((with_reducible apply Sx.known_at (f := 16)); (case h => (intro W hW; (change Gives Try.prog _ _ _ _); with_reducible exact rx_of i62 W)); (case' hk => skip)) | ((with_reducible apply Sx.asks_at (f := 16)); (case h => (intro W hW; (change Gives Try.prog _ _ _ _); with_reducible exact rx_of i62 W)); (case' hk => skip)) | ((with_reducible apply Sx.known_at (f := 29)); (case h => (intro W hW; (change Gives Try.prog _ _ _ _); with_reducible exact rx_mul f1 f62 f3 W)); (case' hk => skip)) | ((with_reducible apply Sx.asks_at (f := 29)); (case h => (intro W hW; (change Gives Try.prog _ _ _ _); with_reducible exact rx_mul f1 f62 f3 W)); (case' hk => skip)))
        clear f1 bN i62 f62
        have f1 := f3
        clear f3
        have bN := True.intro
      case' false =>
        repeat' (first | (simp (disch := omega) only [Sx.sxE, m_Tape__Ratio_E, Nat.reduceAdd, Nat.reduceEqDiff, Nat.reduceMul, Nat.reduceSub, Int.reduceAdd, Int.reduceSub, Int.reduceMul, Int.reduceNeg, Int.reduceLT, Int.reduceLE, Int.reduceEq, Int.reduceToNat, ↓reduceIte, decide_true, decide_false, true_and, and_true, not_false_eq_true, not_true_eq_false, Bool.not_true, Bool.not_false, Bool.not_not, Int.cast_ofNat_Int, Int.toNat_natCast, Int.reducePow, ne_eq, eq_self, and_self, Nat.le_refl, Nat.reduceLeDiff, Nat.reduceLT, Bool.false_eq_true, List.length_cons, List.length_nil, qxE]))
      all_goals
        clear bN
        have mk1 := fun W => rx_rmake f1.rw f2.rw W
        rcases mkV_cases (b := true && true) with ⟨hm, e⟩ | ⟨hm, e⟩
        · rw [e] at mk1
          have hq := mok_fq hm
          clear e hm
          repeat' (first | (simp (disch := omega) only [Sx.sxE, m_Tape__Ratio_E, Nat.reduceAdd, Nat.reduceEqDiff, Nat.reduceMul, Nat.reduceSub, Int.reduceAdd, Int.reduceSub, Int.reduceMul, Int.reduceNeg, Int.reduceLT, Int.reduceLE, Int.reduceEq, Int.reduceToNat, ↓reduceIte, decide_true, decide_false, true_and, and_true, not_false_eq_true, not_true_eq_false, Bool.not_true, Bool.not_false, Bool.not_not, Int.cast_ofNat_Int, Int.toNat_natCast, Int.reducePow, ne_eq, eq_self, and_self, Nat.le_refl, Nat.reduceLeDiff, Nat.reduceLT, Bool.false_eq_true, List.length_cons, List.length_nil, qxE]) | ((with_reducible apply Sx.known_at (f := 20)); (case h => (intro W hW; (change Gives Try.prog _ _ _ _); with_reducible exact mk1 W)); (case' hk => skip)) | ((with_reducible apply Sx.asks_at (f := 20)); (case h => (intro W hW; (change Gives Try.prog _ _ _ _); with_reducible exact mk1 W)); (case' hk => skip)))
          exact ⟨(_, _), hq, rfl⟩
        · rw [e] at mk1
          clear e hm
          repeat' (first | (simp (disch := omega) only [Sx.sxE, m_Tape__Ratio_E, Nat.reduceAdd, Nat.reduceEqDiff, Nat.reduceMul, Nat.reduceSub, Int.reduceAdd, Int.reduceSub, Int.reduceMul, Int.reduceNeg, Int.reduceLT, Int.reduceLE, Int.reduceEq, Int.reduceToNat, ↓reduceIte, decide_true, decide_false, true_and, and_true, not_false_eq_true, not_true_eq_false, Bool.not_true, Bool.not_false, Bool.not_not, Int.cast_ofNat_Int, Int.toNat_natCast, Int.reducePow, ne_eq, eq_self, and_self, Nat.le_refl, Nat.reduceLeDiff, Nat.reduceLT, Bool.false_eq_true, List.length_cons, List.length_nil, qxE]) | ((with_reducible apply Sx.known_at (f := 20)); (case h => (intro W hW; (change Gives Try.prog _ _ _ _); with_reducible exact mk1 W)); (case' hk => skip)) | ((with_reducible apply Sx.asks_at (f := 20)); (case h => (intro W hW; (change Gives Try.prog _ _ _ _); with_reducible exact mk1 W)); (case' hk => skip)) | ((with_reducible apply Sx.known_at (f := 37)); (case h => (intro W hW; (change Gives Try.prog _ _ _ _); with_reducible exact rx_rof i64_one W)); (case' hk => skip)) | ((with_reducible apply Sx.asks_at (f := 37)); (case h => (intro W hW; (change Gives Try.prog _ _ _ _); with_reducible exact rx_rof i64_one W)); (case' hk => skip)))
          exact ⟨(1, 1), fq_int (bd_le bd_one (by decide)), rfl⟩
end Go.Proofs.Ytlanoclibdhpmaa

/- CdL3: MADE BY PROGRAM (sxgen.py): the small code of some functions, points of it and their equations. -/
namespace Go.Proofs.Ytlanoclibdhpmaa
open Go Go.RowKit Sx
set_option linter.unusedVariables false
variable (C : Cx) (R L1 L2 L3 L4 : St → Prop)
def w03_known_r0 : List G := [(some 0, none, (.mv (.const (.bool false))))]
def w03_known_c2 : MC := (.reg w03_known_r0 (some []))
def w03_known_r1 : List G := [(some 4, none, (.call false 16 [(.const (.int .i64 6))])), (some 5, none, (.call false 16 [(.const (.int .i64 (-4)))])), (some 6, none, (.call false 19 [(.tmp 4), (.tmp 5)])), (some 3, none, (.mv (.tmp 6))), (some 7, none, (.ex (.tmp 3) 0)), (some 8, none, (.ex (.tmp 3) 1)), (some 1, none, (.new zR)), (none, none, (.st true 10 (.tmp 1) (.tmp 7))), (some 2, none, (.mv (.tmp 8)))]
def w03_known_c4 : MC := (.reg w03_known_r1 (some [1, 2]))
def w03_known_r2 : List G := [(some 9, none, (.mv (.tmp 2))), (some 10, none, (.mv (.tmp 9))), (some 11, some (10, true), (.fa 0 (.tmp 1))), (some 12, some (10, true), (.ld true 5 (.tmp 11))), (some 13, some (10, true), (.call true 16 [(.const (.int .i64 (-3)))])), (some 14, some (10, true), (.eqg false 25 (.tmp 12) (.tmp 13))), (some 15, none, (.pick (.tmp 10) (.tmp 14) (.const (.bool false)))), (some 16, none, (.mv (.tmp 15))), (some 17, some (16, true), (.fa 5 (.tmp 1))), (some 18, some (16, true), (.ld true 5 (.tmp 17))), (some 19, some (16, true), (.call true 16 [(.const (.int .i64 2))])), (some 20, some (16, true), (.eqg false 25 (.tmp 18) (.tmp 19))), (some 21, none, (.pick (.tmp 16) (.tmp 20) (.const (.bool false)))), (some 22, none, (.mv (.tmp 21))), (some 23, some (22, true), (.ld true 10 (.tmp 1))), (some 24, some (22, true), (.call true 24 [(.tmp 23)])), (some 25, some (22, true), (.call true 16 [(.const (.int .i64 (-2)))])), (some 26, some (22, true), (.eqg false 25 (.tmp 24) (.tmp 25))), (some 27, none, (.pick (.tmp 22) (.tmp 26) (.const (.bool false)))), (some 28, none, (.mv (.tmp 27))), (some 29, some (28, true), (.ld true 10 (.tmp 1))), (some 30, some (28, true), (.call true 27 [(.tmp 29), (.const (.int .u64 1))])), (some 31, some (28, true), (.call true 16 [(.const (.int .i64 (-1)))])), (some 32, some (28, true), (.eqg false 25 (.tmp 30) (.tmp 31))), (some 33, none, (.pick (.tmp 28) (.tmp 32) (.const (.bool false))))]
def w03_known_t2 : List G := [(some 0, none, (.mv (.tmp 33)))]
def w03_known_c6 : MC := (.dreg w03_known_r2 w03_known_t2 (some [0]))
def w03_known_c5 : MC := (.seq w03_known_c6 .ret)
def w03_known_c3 : MC := (.seq w03_known_c4 w03_known_c5)
def w03_known_c1 : MC := (.seq w03_known_c2 w03_known_c3)
def w03_known_ann : Ann := [(0, (some [], 0, [], [], [])), (1, (some [1, 2], 0, [], [], [])), (2, (some [0], 25, [], [(0, 0), (1, 0), (2, 0), (3, 0), (4, 0), (5, 0), (6, 0), (7, 0), (8, 0), (9, 0), (10, 0), (11, 0), (12, 0), (13, 0), (14, 0), (15, 0), (16, 0), (17, 0), (18, 0), (19, 0), (20, 0), (21, 0), (22, 0), (23, 0), (24, 0)], []))]
theorem w03_known_ok : compF Try.prog Try.f22 w03_known_ann = some (34, w03_known_c1, [(0, none)]) := by kernel_rfl
def w03_known_p1 : St → Prop := X C w03_known_c6 (thenK R (retK R))
theorem w03_known_p1_e (S : St) : w03_known_p1 C R S = Sx.ops C w03_known_r2 (Sx.ops C w03_known_t2 (kq [0] R)) S := rfl
def w03_known_p2 : St → Prop := X C w03_known_c4 (thenK (w03_known_p1 C R) (retK R))
theorem w03_known_p2_e (S : St) : w03_known_p2 C R S = Sx.ops C w03_known_r1 (kq [1, 2] (w03_known_p1 C R)) S := rfl
def w03_known_p3 : St → Prop := X C w03_known_c2 (thenK (w03_known_p2 C R) (retK R))
theorem w03_known_p3_e (S : St) : w03_known_p3 C R S = Sx.ops C w03_known_r0 (kq [] (w03_known_p2 C R)) S := rfl
set_option maxRecDepth 100000 in
theorem w03_known_s (S : St) : X C w03_known_c1 (retK R) S = (w03_known_p3 C R) S := rfl
theorem w03_known_start {R : Value → Prop} {args : List Value} {w : World} : type_of% (enter (R := R) (args := args) (w := w) Try.func22 w03_known_ok) := enter Try.func22 w03_known_ok
theorem w03_known_E : type_of% @w03_known_r2.eq_1 ∧ type_of% @w03_known_t2.eq_1 ∧ type_of% @w03_known_p1_e ∧ type_of% @w03_known_r1.eq_1 ∧ type_of% @w03_known_p2_e ∧ type_of% @w03_known_r0.eq_1 ∧ type_of% @w03_known_p3_e ∧ type_of% @w03_known_s := ⟨@w03_known_r2.eq_1, @w03_known_t2.eq_1, @w03_known_p1_e, @w03_known_r1.eq_1, @w03_known_p2_e, @w03_known_r0.eq_1, @w03_known_p3_e, @w03_known_s⟩
def w03_alike_r0 : List G := [(some 3, none, (.box true 10 (.tmp 0))), (some 4, none, (.box true 10 (.tmp 1))), (some 6, none, (.mv (.const (.bool false))))]
def w03_alike_c2 : MC := (.reg w03_alike_r0 (some [2, 3, 4]))
def w03_alike_r1 : List G := [(some 7, none, (.ld true 10 (.tmp 3))), (some 8, none, (.call true 21 [(.tmp 7)])), (some 9, none, (.ld true 10 (.tmp 3))), (some 10, none, (.call true 42 [(.tmp 9)])), (some 11, none, (.bq false (.tmp 8) (.tmp 10))), (some 12, none, (.mv (.tmp 11))), (some 13, some (12, true), (.ld true 10 (.tmp 3))), (some 14, some (12, true), (.ld true 10 (.tmp 4))), (some 15, some (12, true), (.call true 30 [(.tmp 13), (.tmp 14)])), (some 16, some (12, true), (.ld true 10 (.tmp 3))), (some 17, some (12, true), (.ld true 10 (.tmp 4))), (some 18, some (12, true), (.call true 28 [(.tmp 16), (.tmp 17)])), (some 19, some (12, true), (.bin .eql (.tmp 15) (.tmp 18))), (some 20, none, (.pick (.tmp 12) (.tmp 19) (.const (.bool false)))), (some 21, none, (.mv (.tmp 20))), (some 22, some (21, true), (.ld true 10 (.tmp 3))), (some 23, some (21, true), (.call true 24 [(.tmp 22)])), (some 24, some (21, true), (.ld true 10 (.tmp 3))), (some 25, some (21, true), (.call true 74 [(.tmp 24)])), (some 26, some (21, true), (.eqg false 25 (.tmp 23) (.tmp 25))), (some 27, none, (.pick (.tmp 21) (.tmp 26) (.const (.bool false)))), (some 28, none, (.mv (.tmp 27))), (some 29, some (28, true), (.ld true 10 (.tmp 3))), (some 30, some (28, true), (.call true 25 [(.tmp 29)])), (some 31, some (28, true), (.ld true 10 (.tmp 3))), (some 32, some (28, true), (.call true 75 [(.tmp 31)])), (some 33, some (28, true), (.eqg false 25 (.tmp 30) (.tmp 32))), (some 34, none, (.pick (.tmp 28) (.tmp 33) (.const (.bool false)))), (some 35, none, (.mv (.tmp 34))), (some 36, some (35, true), (.ld true 10 (.tmp 3))), (some 37, some (35, true), (.mv (.tmp 2))), (some 38, some (35, true), (.call true 27 [(.tmp 36), (.tmp 37)])), (some 39, some (35, true), (.ld true 10 (.tmp 3))), (some 40, some (35, true), (.mv (.tmp 2))), (some 41, some (35, true), (.call true 76 [(.tmp 39), (.tmp 40)])), (some 42, some (35, true), (.eqg false 25 (.tmp 38) (.tmp 41))), (some 43, none, (.pick (.tmp 35) (.tmp 42) (.const (.bool false))))]
def w03_alike_t1 : List G := [(some 6, none, (.mv (.tmp 43)))]
def w03_alike_c4 : MC := (.dreg w03_alike_r1 w03_alike_t1 (some [6]))
def w03_alike_c3 : MC := (.seq w03_alike_c4 .ret)
def w03_alike_c1 : MC := (.seq w03_alike_c2 w03_alike_c3)
def w03_alike_ann : Ann := [(0, (some [2, 3, 4], 0, [], [], [])), (1, (some [6], 37, [], [(0, 0), (1, 0), (2, 0), (3, 0), (4, 0), (5, 0), (6, 0), (7, 0), (8, 0), (9, 0), (10, 0), (11, 0), (12, 0), (13, 0), (14, 0), (15, 0), (16, 0), (17, 0), (18, 0), (19, 0), (20, 0), (21, 0), (22, 0), (23, 0), (24, 0), (25, 0), (26, 0), (27, 0), (28, 0), (29, 0), (30, 0), (31, 0), (32, 0), (33, 0), (34, 0), (35, 0), (36, 0)], []))]
theorem w03_alike_ok : compF Try.prog Try.f34 w03_alike_ann = some (44, w03_alike_c1, [(6, none)]) := by kernel_rfl
def w03_alike_p1 : St → Prop := X C w03_alike_c4 (thenK R (retK R))
theorem w03_alike_p1_e (S : St) : w03_alike_p1 C R S = Sx.ops C w03_alike_r1 (Sx.ops C w03_alike_t1 (kq [6] R)) S := rfl
def w03_alike_p2 : St → Prop := X C w03_alike_c2 (thenK (w03_alike_p1 C R) (retK R))
theorem w03_alike_p2_e (S : St) : w03_alike_p2 C R S = Sx.ops C w03_alike_r0 (kq [2, 3, 4] (w03_alike_p1 C R)) S := rfl
set_option maxRecDepth 100000 in
theorem w03_alike_s (S : St) : X C w03_alike_c1 (retK R) S = (w03_alike_p2 C R) S := rfl
theorem w03_alike_start {R : Value → Prop} {args : List Value} {w : World} : type_of% (enter (R := R) (args := args) (w := w) Try.func34 w03_alike_ok) := enter Try.func34 w03_alike_ok
theorem w03_alike_E : type_of% @w03_alike_r1.eq_1 ∧ type_of% @w03_alike_t1.eq_1 ∧ type_of% @w03_alike_p1_e ∧ type_of% @w03_alike_r0.eq_1 ∧ type_of% @w03_alike_p2_e ∧ type_of% @w03_alike_s := ⟨@w03_alike_r1.eq_1, @w03_alike_t1.eq_1, @w03_alike_p1_e, @w03_alike_r0.eq_1, @w03_alike_p2_e, @w03_alike_s⟩
end Go.Proofs.Ytlanoclibdhpmaa

/- L3: Helpers of the statements about ratio: known, alike; raw arguments. -/
namespace Go.Proofs.Ytlanoclibdhpmaa
open Go Go.RowKit Sx
set_option linter.unusedVariables false
set_option linter.unusedSimpArgs false
/-- The given code of an equality of Wides or of Ratios; for the run. -/
theorem gx_make {z y : Int} (h : Fits z) (h' : Fits y) (W : World) : Gives Try.prog 19 [WX z, WX y] W (· = mkV true z y) := gx_rmake h.rw h'.rw W
theorem rx_make {z y : Int} (h : Fits z) (h' : Fits y) (W : World) : Gives Try.prog 20 [WX z, WX y] W (· = mkV true z y) := rx_rmake h.rw h'.rw W
theorem mkV_yes {z y : Int} (h : mok true z y = true) : mkV true z y = .tuple #[RX (mn z y) (mD z y), .bool true] := by unfold mkV; rw [if_pos h]
theorem fits_i64 {x : Int} (h : I64 x) : Fits x := (bd_i64 h).fits
theorem i64n (n : Int) (h : -1000000 ≤ n ∧ n ≤ 1000000) : I64 n := ⟨by omega, by omega⟩
set_option maxRecDepth 100000 in
theorem g_known03 (W : World) : Gives Try.prog 22 [] W (· = .bool true) := by
  have mk1 := fun W => gx_make (fits_i64 (i64n 6 (by decide))) (fits_i64 (i64n (-4) (by decide))) W
  rw [mkV_yes (by decide +kernel), show mn 6 (-4) = -3 by decide +kernel, show mD 6 (-4) = 2 by decide +kernel] at mk1
  have f : Fq (-3) 2 := rok_iff.1 (show rok true (-3) 2 = true by decide +kernel) |>.2
  have e1 : (-3 : Int) / 2 = -2 := by decide
  have e2 : atq (-3) 2 1 = -1 := by decide
  have q1 := fun W => gx_rfloor f.cq W
  have q2 := fun W => gx_rat f.cq (n := 1) ⟨by decide, by decide⟩ W
  rw [e1] at q1
  rw [e2] at q2
  have o6 := fun W => rx_of (i64n 6 (by decide)) W
  have o4 := fun W => rx_of (i64n (-4) (by decide)) W
  have o3 := fun W => rx_of (i64n (-3) (by decide)) W
  have o2 := fun W => rx_of (i64n 2 (by decide)) W
  have om := fun W => rx_of (i64n (-2) (by decide)) W
  have o1 := fun W => rx_of (i64n (-1) (by decide)) W
  refine gives_known en_w03_known ?_
  refine Sx.known_of (w03_known_start (args := []) (by simp) ?_)
  repeat' (first | (simp (disch := omega) only [Sx.sxE, w03_known_E, Nat.reduceAdd, Nat.reduceEqDiff, Nat.reduceMul, Nat.reduceSub, Int.reduceAdd, Int.reduceSub, Int.reduceMul, Int.reduceNeg, Int.reduceLT, Int.reduceLE, Int.reduceEq, Int.reduceToNat, ↓reduceIte, decide_true, decide_false, true_and, and_true, not_false_eq_true, not_true_eq_false, Bool.not_true, Bool.not_false, Bool.not_not, Int.cast_ofNat_Int, Int.toNat_natCast, Int.reducePow, ne_eq, eq_self, and_self, Nat.le_refl, Nat.reduceLeDiff, Nat.reduceLT, Bool.false_eq_true, List.length_cons, List.length_nil, qxE]) | ((with_reducible apply Sx.known_at (f := 16)); (case h => (intro W hW; (change Gives Try.prog _ _ _ _); with_reducible exact o6 W)); (case' hk => skip)) | ((with_reducible apply Sx.asks_at (f := 16)); (case h => (intro W hW; (change Gives Try.prog _ _ _ _); with_reducible exact o6 W)); (case' hk => skip)) | ((with_reducible apply Sx.known_at (f := 16)); (case h => (intro W hW; (change Gives Try.prog _ _ _ _); with_reducible exact o4 W)); (case' hk => skip)) | ((with_reducible apply Sx.asks_at (f := 16)); (case h => (intro W hW; (change Gives Try.prog _ _ _ _); with_reducible exact o4 W)); (case' hk => skip)) | ((with_reducible apply Sx.known_at (f := 16)); (case h => (intro W hW; (change Gives Try.prog _ _ _ _); with_reducible exact o3 W)); (case' hk => skip)) | ((with_reducible apply Sx.asks_at (f := 16)); (case h => (intro W hW; (change Gives Try.prog _ _ _ _); with_reducible exact o3 W)); (case' hk => skip)) | ((with_reducible apply Sx.known_at (f := 16)); (case h => (intro W hW; (change Gives Try.prog _ _ _ _); with_reducible exact o2 W)); (case' hk => skip)) | ((with_reducible apply Sx.asks_at (f := 16)); (case h => (intro W hW; (change Gives Try.prog _ _ _ _); with_reducible exact o2 W)); (case' hk => skip)) | ((with_reducible apply Sx.known_at (f := 16)); (case h => (intro W hW; (change Gives Try.prog _ _ _ _); with_reducible exact om W)); (case' hk => skip)) | ((with_reducible apply Sx.asks_at (f := 16)); (case h => (intro W hW; (change Gives Try.prog _ _ _ _); with_reducible exact om W)); (case' hk => skip)) | ((with_reducible apply Sx.known_at (f := 16)); (case h => (intro W hW; (change Gives Try.prog _ _ _ _); with_reducible exact o1 W)); (case' hk => skip)) | ((with_reducible apply Sx.asks_at (f := 16)); (case h => (intro W hW; (change Gives Try.prog _ _ _ _); with_reducible exact o1 W)); (case' hk => skip)) | ((with_reducible apply Sx.known_at (f := 19)); (case h => (intro W hW; (change Gives Try.prog _ _ _ _); with_reducible exact mk1 W)); (case' hk => skip)) | ((with_reducible apply Sx.asks_at (f := 19)); (case h => (intro W hW; (change Gives Try.prog _ _ _ _); with_reducible exact mk1 W)); (case' hk => skip)) | ((with_reducible apply Sx.known_at (f := 24)); (case h => (intro W hW; (change Gives Try.prog _ _ _ _); with_reducible exact q1 W)); (case' hk => skip)) | ((with_reducible apply Sx.asks_at (f := 24)); (case h => (intro W hW; (change Gives Try.prog _ _ _ _); with_reducible exact q1 W)); (case' hk => skip)) | ((with_reducible apply Sx.known_at (f := 27)); (case h => (intro W hW; (change Gives Try.prog _ _ _ _); with_reducible exact q2 W)); (case' hk => skip)) | ((with_reducible apply Sx.asks_at (f := 27)); (case h => (intro W hW; (change Gives Try.prog _ _ _ _); with_reducible exact q2 W)); (case' hk => skip)) | ((with_reducible apply Sx.eq_is); (case h => exact fun W => eqx_run (fits_i64 (i64n _ (by decide))) (fits_i64 (i64n _ (by decide))) W); (case' hk => skip)))
theorem cq_valid {v : Value} {p q : Int} (h : CQ v p q) : ∃ t, (∀ W, Gives Try.prog 21 [v] W (· = .bool t)) ∧ ∀ W, Gives Try.prog 42 [v] W (· = .bool t) := by
  rcases h with ⟨x, y, h1, h2, rfl, -, -⟩ | ⟨h, -, -⟩
  · exact ⟨_, fun W => gx_rvalid h1 h2 W, fun W => rx_rvalid h1 h2 W⟩
  · exact ⟨_, fun W => gx_rvalid0 h W, fun W => rx_rvalid0 h W⟩
theorem bb_self (b : Bool) : (b == b) = true := by cases b <;> rfl
theorem fits_at {p q n : Int} (h : Fq p q) (hn : U64 n) : Fits (atq p q n) := by
  have b1 := bd_mul h.bp (bd_u64 hn)
  have b3 : Bd 194 (2 * (p * n) + q) := bd_add (bd_mul bd_two b1) h.bq (by decide) (by decide)
  have := h.pos
  exact fits_ediv b3.fits (by omega)
set_option maxRecDepth 100000 in
theorem g_alike03 {v v' : Value} {p q p' q' n : Int} (h : CQ v p q) (h' : CQ v' p' q') (hn : U64 n) (W : World) : Gives Try.prog 34 [v, v', .int .u64 n] W (· = .bool true) := by
  obtain ⟨c0, c1, c2, c3, c4, c5, c6, c7, c8, c9, rfl⟩ := h.ten
  obtain ⟨d0, d1, d2, d3, d4, d5, d6, d7, d8, d9, rfl⟩ := h'.ten
  have f := h.fq
  obtain ⟨t, v1, v2⟩ := cq_valid h
  have bt := bb_self t
  have f1 := fits_ediv f.fp f.ne
  have f2 := fits_neg (fits_ediv f.neg.fp f.ne)
  have f3 := fits_at f hn
  refine gives_known en_w03_alike ?_
  refine Sx.known_of (w03_alike_start (args := [_, _, _]) (by simp) ?_)
  repeat' (first | (simp (disch := omega) only [Sx.sxE, w03_alike_E, Nat.reduceAdd, Nat.reduceEqDiff, Nat.reduceMul, Nat.reduceSub, Int.reduceAdd, Int.reduceSub, Int.reduceMul, Int.reduceNeg, Int.reduceLT, Int.reduceLE, Int.reduceEq, Int.reduceToNat, ↓reduceIte, decide_true, decide_false, true_and, and_true, not_false_eq_true, not_true_eq_false, Bool.not_true, Bool.not_false, Bool.not_not, Int.cast_ofNat_Int, Int.toNat_natCast, Int.reducePow, ne_eq, eq_self, and_self, Nat.le_refl, Nat.reduceLeDiff, Nat.reduceLT, Bool.false_eq_true, List.length_cons, List.length_nil, qxE, bt, beq_self_eq_true]) | ((with_reducible apply Sx.known_at (f := 21)); (case h => (intro W hW; (change Gives Try.prog _ _ _ _); with_reducible exact v1 W)); (case' hk => skip)) | ((with_reducible apply Sx.asks_at (f := 21)); (case h => (intro W hW; (change Gives Try.prog _ _ _ _); with_reducible exact v1 W)); (case' hk => skip)) | ((with_reducible apply Sx.known_at (f := 42)); (case h => (intro W hW; (change Gives Try.prog _ _ _ _); with_reducible exact v2 W)); (case' hk => skip)) | ((with_reducible apply Sx.asks_at (f := 42)); (case h => (intro W hW; (change Gives Try.prog _ _ _ _); with_reducible exact v2 W)); (case' hk => skip)) | ((with_reducible apply Sx.known_at (f := 30)); (case h => (intro W hW; (change Gives Try.prog _ _ _ _); with_reducible exact gx_rcompare h h' W)); (case' hk => skip)) | ((with_reducible apply Sx.asks_at (f := 30)); (case h => (intro W hW; (change Gives Try.prog _ _ _ _); with_reducible exact gx_rcompare h h' W)); (case' hk => skip)) | ((with_reducible apply Sx.known_at (f := 28)); (case h => (intro W hW; (change Gives Try.prog _ _ _ _); with_reducible exact rx_rcompare h h' W)); (case' hk => skip)) | ((with_reducible apply Sx.asks_at (f := 28)); (case h => (intro W hW; (change Gives Try.prog _ _ _ _); with_reducible exact rx_rcompare h h' W)); (case' hk => skip)) | ((with_reducible apply Sx.known_at (f := 24)); (case h => (intro W hW; (change Gives Try.prog _ _ _ _); with_reducible exact gx_rfloor h W)); (case' hk => skip)) | ((with_reducible apply Sx.asks_at (f := 24)); (case h => (intro W hW; (change Gives Try.prog _ _ _ _); with_reducible exact gx_rfloor h W)); (case' hk => skip)) | ((with_reducible apply Sx.known_at (f := 74)); (case h => (intro W hW; (change Gives Try.prog _ _ _ _); with_reducible exact rx_rfloor h W)); (case' hk => skip)) | ((with_reducible apply Sx.asks_at (f := 74)); (case h => (intro W hW; (change Gives Try.prog _ _ _ _); with_reducible exact rx_rfloor h W)); (case' hk => skip)) | ((with_reducible apply Sx.known_at (f := 25)); (case h => (intro W hW; (change Gives Try.prog _ _ _ _); with_reducible exact gx_rceil h W)); (case' hk => skip)) | ((with_reducible apply Sx.asks_at (f := 25)); (case h => (intro W hW; (change Gives Try.prog _ _ _ _); with_reducible exact gx_rceil h W)); (case' hk => skip)) | ((with_reducible apply Sx.known_at (f := 75)); (case h => (intro W hW; (change Gives Try.prog _ _ _ _); with_reducible exact rx_rceil h W)); (case' hk => skip)) | ((with_reducible apply Sx.asks_at (f := 75)); (case h => (intro W hW; (change Gives Try.prog _ _ _ _); with_reducible exact rx_rceil h W)); (case' hk => skip)) | ((with_reducible apply Sx.known_at (f := 27)); (case h => (intro W hW; (change Gives Try.prog _ _ _ _); with_reducible exact gx_rat h hn W)); (case' hk => skip)) | ((with_reducible apply Sx.asks_at (f := 27)); (case h => (intro W hW; (change Gives Try.prog _ _ _ _); with_reducible exact gx_rat h hn W)); (case' hk => skip)) | ((with_reducible apply Sx.known_at (f := 76)); (case h => (intro W hW; (change Gives Try.prog _ _ _ _); with_reducible exact rx_rat h hn W)); (case' hk => skip)) | ((with_reducible apply Sx.asks_at (f := 76)); (case h => (intro W hW; (change Gives Try.prog _ _ _ _); with_reducible exact rx_rat h hn W)); (case' hk => skip)) | ((with_reducible apply Sx.eq_is); (case h => first | exact fun W => eqx_run f1 f1 W | exact fun W => eqx_run f2 f2 W | exact fun W => eqx_run f3 f3 W); (case' hk => skip)))
theorem rw_cq {c0 c1 c2 c3 c4 d0 d1 d2 d3 d4 : Value} {t t' : Bool} {z y : Int} (h : RW (.agg #[c0, c1, c2, c3, c4]) t z) (h' : RW (.agg #[d0, d1, d2, d3, d4]) t' y) : ∃ p q, CQ (.agg #[c0, c1, c2, c3, c4, d0, d1, d2, d3, d4]) p q := by
  rcases h with ⟨-, e, h⟩ | ⟨-, e, -⟩ <;> rcases h' with ⟨-, e', h'⟩ | ⟨-, e', -⟩
  · cases e; cases e'
    exact ⟨_, _, .inl ⟨z, y, h, h', rfl, rfl, rfl⟩⟩
  · cases e; cases e'
    exact ⟨0, 1, .inr ⟨.inr (.inl ⟨z, h, rfl⟩), rfl, rfl⟩⟩
  · cases e; cases e'
    exact ⟨0, 1, .inr ⟨.inl ⟨y, h', rfl⟩, rfl, rfl⟩⟩
  · cases e; cases e'
    exact ⟨0, 1, .inr ⟨.inr (.inr rfl), rfl, rfl⟩⟩
theorem RW.ones {c0 c1 c2 c3 c4 : Value} {t : Bool} {z : Int} (h : RW (.agg #[c0, c1, c2, c3, c4]) t z) : one c0 = true ∧ one c1 = true ∧ one c2 = true ∧ one c3 = true ∧ one c4 = true := by
  rcases h with ⟨-, e, -⟩ | ⟨-, e, -⟩ <;> (cases e; exact ⟨rfl, rfl, rfl, rfl, rfl⟩)
theorem cq_raw (n n' : Bool) {a b c d a' b' c' d' : Int} (ha : U64 a) (hb : U64 b) (hc : U64 c) (hd : U64 d) (ha' : U64 a') (hb' : U64 b') (hc' : U64 c') (hd' : U64 d') :
    ∃ p q, CQ (.agg #[.bool n, .int .u64 a, .int .u64 b, .int .u64 c, .int .u64 d, .bool n', .int .u64 a', .int .u64 b', .int .u64 c', .int .u64 d']) p q := by
  obtain ⟨t, z, h⟩ := rw_raw n ha hb hc hd
  obtain ⟨t', y, h'⟩ := rw_raw n' ha' hb' hc' hd'
  exact rw_cq h h'
end Go.Proofs.Ytlanoclibdhpmaa

/- Open: Opening arguments that are structs: samples and Wides. -/
namespace Go.Proofs.Ytlanoclibdhpmaa
open Go.ChangeShapes Go.WideShapes Go.ChangeAt Go.RowKit
set_option linter.unusedVariables false
set_option linter.unusedSimpArgs false
section
variable {H : Type} {enc : TypeId × Value → H} {P : Program}
theorem list5 {l : List Value} (h : l.length = 5) : ∃ x y z u v, l = [x, y, z, u, v] := by
  match l, h with
  | [x, y, z, u, v], _ => exact ⟨x, y, z, u, v, rfl⟩
theorem open_wid {t e : TypeId} {f0 f1 : Field} {v : Value} {d : DataW H} {ps : List MemPlace} {W : World} {base : Nat} (ht : P.underlying t = some (.struct #[f0, f1])) (k0 : P.underlying f0.type = some .bool) (k1 : P.underlying f1.type = some (.array 4 e)) (ke : P.underlying e = some (.int .u64)) (o0 : f0.offset = 0) (o1 : f1.offset = 1)
    (c0 : P.cellsOf f0.type = 1) (c1 : P.cellsOf f1.type = 4) (ce : P.cellsOf e = 1) (ct : P.cellsOf t = 5) (hv : Value.okWide P W .any base t v) (h : DataW.Trod enc P W 0 (fun _ => true) true t v d ps) : ∃ n a b c d', v = WV n a b c d' ∧ U64 a ∧ U64 b ∧ U64 c ∧ U64 d' := by
  obtain ⟨cs, rfl, hsz⟩ := okWide_struct ht hv
  obtain ⟨fuel, hf⟩ := h
  obtain ⟨y0, y1, n, _, hlen, e0, e1⟩ := trod_struct2 ht hf
  have hl : cs.toList.length = 5 := by rw [Array.length_toList, hsz, ct]
  obtain ⟨x, y, z, u, v, hxy⟩ := list5 hl
  have hcs : cs = #[x, y, z, u, v] := by rw [← Array.toArray_toList (xs := cs), hxy]
  subst hcs
  rw [o0, c0] at e0
  rw [o1, c1] at e1
  obtain ⟨nb, en, -⟩ := DataW.trod_bool k0 e0
  have e1' : DataW.trod enc P W 0 (fun _ => true) true n f1.type [y, z, u, v] = some y1 := by simpa [Value.cells] using e1
  obtain ⟨z0, z1, z2, z3, m, _, g0, g1, g2, g3⟩ := trod_array4 k1 ce e1'
  obtain ⟨a0, r0, -, w0⟩ := DataW.trod_int ke g0
  obtain ⟨a1, r1, -, w1⟩ := DataW.trod_int ke g1
  obtain ⟨a2, r2, -, w2⟩ := DataW.trod_int ke g2
  obtain ⟨a3, r3, -, w3⟩ := DataW.trod_int ke g3
  simp [Value.cells] at en r0 r1 r2 r3
  subst en; subst r0; subst r1; subst r2; subst r3
  exact ⟨nb, a0, a1, a2, a3, rfl, U64.of_wf w0, U64.of_wf w1, U64.of_wf w2, U64.of_wf w3⟩
theorem list10 {l : List Value} (h : l.length = 10) : ∃ a b c d e x y z u v, l = [a, b, c, d, e, x, y, z, u, v] := by
  match l, h with
  | [a, b, c, d, e, x, y, z, u, v], _ => exact ⟨a, b, c, d, e, x, y, z, u, v, rfl⟩
theorem cells_wid {t e : TypeId} {f0 f1 : Field} {n : Nat} {y : DataW H} {l : List Value} {W : World} (ht : P.underlying t = some (.struct #[f0, f1])) (k0 : P.underlying f0.type = some .bool) (k1 : P.underlying f1.type = some (.array 4 e)) (ke : P.underlying e = some (.int .u64)) (o0 : f0.offset = 0) (o1 : f1.offset = 1)
    (c0 : P.cellsOf f0.type = 1) (c1 : P.cellsOf f1.type = 4) (ce : P.cellsOf e = 1) (hl : l.length = 5) {ps : List MemPlace} (hf : DataW.trod enc P W 0 (fun _ => true) true n t l = some (y, ps)) : ∃ nb a b c d', l = [.bool nb, .int .u64 a, .int .u64 b, .int .u64 c, .int .u64 d'] ∧ U64 a ∧ U64 b ∧ U64 c ∧ U64 d' := by
  obtain ⟨y0, y1, m0, _, hlen, e0, e1⟩ := trod_struct2 ht hf
  obtain ⟨x, y', z, u, v, rfl⟩ := list5 hl
  rw [o0, c0] at e0
  rw [o1, c1] at e1
  obtain ⟨nb, en, -⟩ := DataW.trod_bool k0 e0
  have e1' : DataW.trod enc P W 0 (fun _ => true) true m0 f1.type [y', z, u, v] = some y1 := by simpa [Value.cells] using e1
  obtain ⟨z0, z1, z2, z3, m, _, g0, g1, g2, g3⟩ := trod_array4 k1 ce e1'
  obtain ⟨a0, r0, -, w0⟩ := DataW.trod_int ke g0
  obtain ⟨a1, r1, -, w1⟩ := DataW.trod_int ke g1
  obtain ⟨a2, r2, -, w2⟩ := DataW.trod_int ke g2
  obtain ⟨a3, r3, -, w3⟩ := DataW.trod_int ke g3
  simp [Value.cells] at en r0 r1 r2 r3
  subst en; subst r0; subst r1; subst r2; subst r3
  exact ⟨nb, a0, a1, a2, a3, rfl, U64.of_wf w0, U64.of_wf w1, U64.of_wf w2, U64.of_wf w3⟩
end
set_option maxRecDepth 100000 in
theorem open_wide {H : Type} {enc : TypeId × Value → H} {v : Value} {d : DataW H} {ps : List MemPlace} {W : World} {base : Nat} (hv : Value.okWide Try.prog W .any base 25 v) (h : DataW.Trod enc Try.prog W 0 (fun _ => true) true 25 v d ps) : ∃ n a b c d', v = WV n a b c d' ∧ U64 a ∧ U64 b ∧ U64 c ∧ U64 d' :=
  open_wid Try.underlying25 Try.underlying4 Try.underlying23 Try.underlying22 rfl rfl (by kernel_rfl) (by kernel_rfl) (by kernel_rfl) (by kernel_rfl) hv h
set_option maxRecDepth 100000 in
theorem open_ratio {H : Type} {enc : TypeId × Value → H} {v : Value} {d : DataW H} {ps : List MemPlace} {W : World} {base : Nat} (hv : Value.okWide Try.prog W .any base 35 v) (h : DataW.Trod enc Try.prog W 0 (fun _ => true) true 35 v d ps) : ∃ n a b c d' n1 a1 b1 c1 d1, v = .agg #[.bool n, .int .u64 a, .int .u64 b, .int .u64 c, .int .u64 d', .bool n1, .int .u64 a1, .int .u64 b1, .int .u64 c1, .int .u64 d1] ∧ (U64 a ∧ U64 b ∧ U64 c ∧ U64 d') ∧ (U64 a1 ∧ U64 b1 ∧ U64 c1 ∧ U64 d1) := by
  obtain ⟨cs, rfl, hsz⟩ := okWide_struct Try.underlying35 hv
  obtain ⟨fuel, hf⟩ := h
  obtain ⟨y0, y1, n, _, hlen, e0, e1⟩ := trod_struct2 Try.underlying35 hf
  have ct : Try.prog.cellsOf 35 = 10 := by kernel_rfl
  have cw : Try.prog.cellsOf 25 = 5 := by kernel_rfl
  have hl : cs.toList.length = 10 := by rw [Array.length_toList, hsz, ct]
  obtain ⟨a0, a1, a2, a3, a4, a5, a6, a7, a8, a9, hxy⟩ := list10 hl
  have hcs : cs = #[a0, a1, a2, a3, a4, a5, a6, a7, a8, a9] := by rw [← Array.toArray_toList (xs := cs), hxy]
  subst hcs
  simp only [cw] at e0 e1
  have e0' : DataW.trod enc Try.prog W 0 (fun _ => true) true n 25 [a0, a1, a2, a3, a4] = some y0 := by simpa [Value.cells] using e0
  have e1' : DataW.trod enc Try.prog W 0 (fun _ => true) true n 25 [a5, a6, a7, a8, a9] = some y1 := by simpa [Value.cells] using e1
  obtain ⟨n1, w0, w1, w2, w3, g1, u1, u2, u3, u4⟩ := cells_wid Try.underlying25 Try.underlying4 Try.underlying23 Try.underlying22 rfl rfl (by kernel_rfl) (by kernel_rfl) (by kernel_rfl) rfl e0'
  obtain ⟨n2, x0, x1, x2, x3, g2, v1, v2, v3, v4⟩ := cells_wid Try.underlying25 Try.underlying4 Try.underlying23 Try.underlying22 rfl rfl (by kernel_rfl) (by kernel_rfl) (by kernel_rfl) rfl e1'
  cases g1
  cases g2
  exact ⟨_, _, _, _, _, _, _, _, _, _, rfl, ⟨u1, u2, u3, u4⟩, ⟨v1, v2, v3, v4⟩⟩
end Go.Proofs.Ytlanoclibdhpmaa

/- Ck: A symbolic run: blocks of the call's own that are known cell by cell. -/
namespace Go.Proofs.Ytlanoclibdhpmaa
open Go Go.RowKit Sx
set_option linter.unusedVariables false
set_option linter.unusedSimpArgs false
namespace Sx
variable {C : Cx} {S : St} {K : St → Prop} {d : Option Nat}
/-- Block b holds these cells. -/
def cK (b : Nat) (cs : List Value) : KnG where
  bs := [b]
  ok n W := n ≤ b ∧ HB W b cs.toArray
  lt := fun {n W} h c hc => by
    rw [List.mem_singleton.1 hc]
    exact ⟨h.1, h.2.lt⟩
  keep := fun {n W W'} h hs hb ho => by
    obtain ⟨T, hT⟩ := h.2
    exact ⟨h.1, T, (hb b (List.mem_singleton.2 rfl)).trans hT⟩
theorem cK_cell {b : Nat} {cs : List Value} {n : Nat} {W : World} (h : (cK b cs).ok n W) {i : Nat} {v : Value} (hv : cs[i]? = some v) : W.cell? ⟨b, i, none⟩ = some v := by
  have hc := (Bx.of h.2).2.1 i
  rw [hc]
  simpa using hv
/-- An operation that makes a block. -/
theorem genA_c {q : GK} {l : List Value} {L : List Kn} {cs : List Value} {T : TypeId} (v : Nat → Value) (hT : S.T = kX C.w0.heap.size L)
    (h : ∀ W, (genRun q l).run C.P W = .ok (.value (v W.heap.size)) (W.alloc (.cells cs.toArray T (0, 0))))
    (hk : ∀ b, b ∉ S.T.bs → K (St.put ⟨S.n, S.E, S.H, kX C.w0.heap.size (.g (cK b cs) :: L)⟩ d (.v (v b)))) : genA C q l d K S := by
  refine genA_T (ι := {x : Nat // x ∉ S.T.bs}) (fun x => v x.1) (fun x => kX C.w0.heap.size (.g (cK x.1 cs) :: L)) (fun W hW hok hbs => ⟨?_⟩) (fun x => hk _ x.2)
  rw [hT] at hok
  rw [h W]
  have hb : Below W.heap.size W (W.alloc (.cells cs.toArray T (0, 0))) := (Below.refl _ _).alloc (Nat.le_refl _) _
  have hc : (cK W.heap.size cs).ok C.w0.heap.size (W.alloc (.cells cs.toArray T (0, 0))) := ⟨hW.size, HB.new W _ T rfl⟩
  refine ⟨⟨W.heap.size, fun hT2 => by have := (hbs _ hT2).2; omega⟩, rfl, ⟨hb.os, hb.tape, hb.output, hb.size, fun i hi _ => hb.block i hi⟩, ?_, kX_stab C _, ?_⟩
  · intro k hk
    rcases List.mem_cons.1 hk with rfl | hk
    · exact hc
    · exact (hok k hk).below hb
  · intro b hbb
    obtain ⟨k, hk, hbb⟩ := kX_bs.1 hbb
    rcases List.mem_cons.1 hk with rfl | hk
    · have : b = W.heap.size := List.mem_singleton.1 hbb
      subst this
      exact ⟨.inr (Nat.le_refl _), hc.2.lt⟩
    · exact ⟨.inl (by rw [hT]; exact kX_bs.2 ⟨k, hk, hbb⟩), Nat.lt_of_lt_of_le ((hok k hk).lt b hbb).2 hb.size⟩
/-- Cells of such a block are read. -/
theorem ldP_c {L : List Kn} {b o m : Nat} {g : Bool} {cs l : List Value} (hT : (C.kn S).T = kX C.w0.heap.size L) (hm : .g (cK b cs) ∈ L) (hl : l.length = m) (hs : ∀ j v, l[j]? = some v → cs[o + j]? = some v) (hk : K (S.put d (.v (mk g l)))) : ldP C g m ⟨b, o, none⟩ d K S :=
  ldP_ext l hl (fun W hW hok j v hj => by
    rw [hT] at hok
    have ho : (cK b cs).ok C.w0.heap.size W := hok _ hm
    rw [Addr.add_lit]
    exact cK_cell ho (hs j v hj)) hk
end Sx
end Go.Proofs.Ytlanoclibdhpmaa
