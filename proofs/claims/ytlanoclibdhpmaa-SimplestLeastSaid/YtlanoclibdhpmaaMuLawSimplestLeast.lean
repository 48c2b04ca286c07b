/- Proved: tscodeclaw04.SimplestLeast returns true for all arguments. No condition. -/
import Derived.Test.YtlanoclibdhpmaaRows
import Derived.Test.YtlanoclibdhpmaaMuClSimplestLeast
import Derived.OpenShut
import Derived.SizedLaws
import Derived.Laws.IdiomArrays
import Derived.WalkKit
import Derived.ProofKit
import Derived.Outline
import Derived.Test.YtlanoclibdhpmaaMu2
import Derived.Test.YtlanoclibdhpmaaMu4
import Derived.Test.YtlanoclibdhpmaaMu5
namespace Go.Proofs.Ytlanoclibdhpmaa.simplestLeast
open Go.ChangeShapes Go.WideShapes Go.ChangeAt Go.RowKit Sx
set_option linter.unusedVariables false
set_option linter.unusedSimpArgs false


set_option maxHeartbeats 8000000 in
set_option maxRecDepth 100000 in
theorem walk (w : World) (a0 : Int) (h0 : I64 a0) (a1 : Int) (h1 : I64 a1) (a2 : Int) (h2 : U8 a2) (a3 : Int) (h3 : U8 a3) :
    Calls Try.prog 11 #[.int .i64 a0, .int .i64 a1, .int .u8 a2, .int .u8 a3] w fun e w' => e = .returned (.bool true) ∧ Below w.heap.size w w' := by

  obtain ⟨u0, u1⟩ := h2
  obtain ⟨u2, u3⟩ := h3
  have m0 := tmod_small a0
  have m1 := tmod_small a1
  have i0 : I64 (a0.tmod 10000) := ⟨by omega, by omega⟩
  have i1 : I64 (a1.tmod 10000) := ⟨by omega, by omega⟩
  have i2 : I64 (a2 + 1) := ⟨by omega, by omega⟩
  have i3 : I64 (a3 + 1) := ⟨by omega, by omega⟩
  have k1 := fun W => g_fraction i0 i2 (by omega) W
  have k2 := fun W => g_fraction i1 i3 (by omega) W
  obtain ⟨hf, e1, b1, b2⟩ := fr_facts (n := a0.tmod 10000) 9999 (by decide) (by unfold ab; split <;> omega) (d := a2 + 1) (by omega)
  obtain ⟨hg, e2, b3, b4⟩ := fr_facts (n := a1.tmod 10000) 9999 (by decide) (by unfold ab; split <;> omega) (d := a3 + 1) (by omega)
  clear e1 e2
  generalize mn (a0.tmod 10000) (a2 + 1) = p at *
  generalize mD (a0.tmod 10000) (a2 + 1) = q at *
  generalize mn (a1.tmod 10000) (a3 + 1) = p1 at *
  generalize mD (a1.tmod 10000) (a3 + 1) = q1 at *
  have r1 := fun W => rx_rcompare hf.cq hg.cq W
  have hgt := km_gt (p * q1) (p1 * q)
  refine known_of (enter Try.func11 w04_SimplestLeast.ok (args := [_, _, _, _]) (by simp) ?_)
  by_cases hle : p * q1 ≤ p1 * q
  · have c0 : ¬ 0 < cq p q p1 q1 := fun h => by have := hgt.1 h; omega
    have sp := btx_spec hf hg hle
    have bt := fun W => gx_bt hf hg hle W
    have hs := sp.fq
    have ls := sp.least p q hf.pos (Int.le_refl _) hle
    have hy := hs.pos
    generalize (btx p q p1 q1).1 = x at *
    generalize (btx p q p1 q1).2 = y at *
    have s1 : -4611686018427387904 < x ∧ x < 4611686018427387904 := by have := ls.1; unfold ab at *; (repeat' split at *) <;> omega
    have s2 : -4611686018427387904 < y ∧ y < 4611686018427387904 := by omega
    have ly : y ≤ 256 := by omega
    have v1 := fun W => rx_int64 hs.fp s1 W
    have v2 := fun W => rx_int64 hs.fq s2 W
    clear ls s1 s2 hgt
    repeat' (first | simp (disch := omega) only [sxE, w04_SimplestLeast.E, Nat.reduceAdd, Nat.reduceEqDiff, Nat.reduceMul, Nat.reduceSub, Int.reduceAdd, Int.reduceSub, Int.reduceMul, Int.reduceNeg, Int.reduceLT, Int.reduceLE, Int.reduceEq, Int.reduceToNat, ↓reduceIte, Int.reducePow, Nat.reduceLeDiff, Nat.reduceLT, ne_eq, eq_self, List.length_cons, List.length_nil, qxE] | (with_reducible refine Sx.call_at (f := 44) (fun W hW => k1 W) ?_) | (with_reducible refine Sx.call_at (f := 44) (fun W hW => k2 W) ?_) | (with_reducible refine Sx.call_at (f := 28) (fun W hW => r1 W) ?_) | (with_reducible refine Sx.call_at (f := 41) (fun W hW => bt W) ?_) | (with_reducible refine Sx.call_at (f := 45) (fun W hW => v1 W) ?_) | (with_reducible refine Sx.call_at (f := 45) (fun W hW => v2 W) ?_))
    clear k1 k2 r1 bt v1 v2
    rw [w04_SimplestLeast.p2_l]
    refine LX_inv (fun k : Int => ⟨2, [(9, .p 0 0), (10, .p 1 0), (13, .v (.int .i64 y)), (15, .v (.int .i64 x)), (17, .v (.int .i64 k))], [(1, [.bool (sg p1), .int .u64 (lb0 (ab p1)), .int .u64 (lb1 (ab p1)), .int .u64 (lb2 (ab p1)), .int .u64 (lb3 (ab p1)), .bool (sg q1), .int .u64 (lb0 (ab q1)), .int .u64 (lb1 (ab q1)), .int .u64 (lb2 (ab q1)), .int .u64 (lb3 (ab q1))]), (0, [.bool (sg p), .int .u64 (lb0 (ab p)), .int .u64 (lb1 (ab p)), .int .u64 (lb2 (ab p)), .int .u64 (lb3 (ab p)), .bool (sg q), .int .u64 (lb0 (ab q)), .int .u64 (lb1 (ab q)), .int .u64 (lb2 (ab q)), .int .u64 (lb3 (ab q))])], ext0⟩) (fun k => 1 ≤ k ∧ k ≤ y + 1) (fun k => (y + 1 - k).toNat) ?round 1 (by omega) ?start
    case start =>
      simp (disch := omega) only [sxE, w04_SimplestLeast.E, Nat.reduceAdd, Nat.reduceEqDiff, Nat.reduceMul, Nat.reduceSub, Int.reduceAdd, Int.reduceSub, Int.reduceMul, Int.reduceNeg, Int.reduceLT, Int.reduceLE, Int.reduceEq, Int.reduceToNat, ↓reduceIte, Int.reducePow, Nat.reduceLeDiff, Nat.reduceLT, ne_eq, eq_self, List.length_cons, List.length_nil]
    case round =>
      intro k hk
      try dsimp only at hk ⊢
      by_cases hlt : k ≤ y
      · obtain ⟨l1, l2, l3⟩ := lea_small b1 (k := k) (by omega) hf.pos
        obtain ⟨g1, g2⟩ := lea_law sp hf.pos hg.pos hk.1 hlt
        have ik : I64 k := ⟨by omega, by omega⟩
        have fk := (bd_i64 ik).fits
        have fpk : Fits (p * k) := (bd_mul hf.bp (bd_i64 ik)).fits
        have fd := fits_ediv fpk hf.ne
        have fm := fits_emod (z := p * k) hf.fq hf.ne
        have w1 := fun W => rx_of ik W
        have w2 := fun W => rx_mul hf.fp fk fpk W
        have w3 := fun W => rx_divmod fpk hf.fq hf.ne W
        have w4 := fun W => rx_int64 fd (by unfold ab at l2; split at l2 <;> omega) W
        have w5 := fun W => rx_sign fm W
        have il : I64 (lea p q k) := by unfold ab at l3; split at l3 <;> exact ⟨by omega, by omega⟩
        have w6 := fun W => g_fraction il ik (by omega) W
        obtain ⟨fl, e, -, -⟩ := fr_facts _ (by decide) l3 (d := k) (by omega)
        have w7 := fun W => rx_rcompare fl.cq hg.cq W
        have w8 := fr_le (p1 := p1) (q1 := q1) (show 0 < k by omega) fl.pos e
        have z0 := km_eq (p * k % q) 0
        have hL : lea p q k = if p * k % q = 0 then p * k / q else p * k / q + 1 := rfl
        have l4 : ab (p * k / q) ≤ 2559744 := l2
        clear l1 l2 l3 fpk fd fm fl e
        generalize mn (lea p q k) k = N at *
        generalize mD (lea p q k) k = D at *
        generalize lea p q k = L at *
        generalize p * k / q = A at *
        generalize p * k % q = R at *
        generalize p * k = Z at *
        generalize cq N D p1 q1 = c at *
        generalize cm R 0 = r at *
        have lA : -2559744 ≤ A ∧ A ≤ 2559744 := by unfold ab at l4; split at l4 <;> omega
        by_cases hR : R = 0
        · rw [if_pos hR] at hL
          have hr := z0.2 hR
          subst hL
          by_cases hky : k < y
          · have hc : ¬ c ≤ 0 := fun h => g1 hky (w8.1 h)
            clear g1 g2 w8 z0 hR
            have d1 := decide_eq_true hky
            have d2 : (k == y) = false := beq_eq_false_iff_ne.2 (by omega)
            have d3 := decide_eq_false hc
            repeat' (first | simp (disch := omega) only [sxE, w04_SimplestLeast.E, Nat.reduceAdd, Nat.reduceEqDiff, Nat.reduceMul, Nat.reduceSub, Int.reduceAdd, Int.reduceSub, Int.reduceMul, Int.reduceNeg, Int.reduceLT, Int.reduceLE, Int.reduceEq, Int.reduceToNat, ↓reduceIte, Int.reducePow, Nat.reduceLeDiff, Nat.reduceLT, ne_eq, eq_self, List.length_cons, List.length_nil, qxE, d1, d2, d3, beq_self_eq_true] | (with_reducible refine Sx.call_at (f := 16) (fun W hW => w1 W) ?_) | (with_reducible refine Sx.call_at (f := 29) (fun W hW => w2 W) ?_) | (with_reducible refine Sx.call_at (f := 46) (fun W hW => w3 W) ?_) | (with_reducible refine Sx.call_at (f := 45) (fun W hW => w4 W) ?_) | (with_reducible refine Sx.call_at (f := 47) (fun W hW => w5 W) ?_) | (with_reducible refine Sx.call_at (f := 44) (fun W hW => w6 W) ?_) | (with_reducible refine Sx.call_at (f := 28) (fun W hW => w7 W) ?_))
            exact ⟨k + 1, by omega, by omega, vi rfl⟩
          · obtain rfl : k = y := by omega
            have hc := w8.2 (g2 rfl).1
            have hx := (g2 rfl).2
            clear g1 g2 w8 z0 hR
            have d1 : decide (k < k) = false := decide_eq_false (by omega)
            have d2 : (k == k) = true := beq_self_eq_true k
            have d3 := decide_eq_true hc
            by_cases hp : 0 < L
            · have e9 := hx hp
              subst e9
              repeat' (first | simp (disch := omega) only [sxE, w04_SimplestLeast.E, Nat.reduceAdd, Nat.reduceEqDiff, Nat.reduceMul, Nat.reduceSub, Int.reduceAdd, Int.reduceSub, Int.reduceMul, Int.reduceNeg, Int.reduceLT, Int.reduceLE, Int.reduceEq, Int.reduceToNat, ↓reduceIte, Int.reducePow, Nat.reduceLeDiff, Nat.reduceLT, ne_eq, eq_self, List.length_cons, List.length_nil, qxE, d1, d2, d3, beq_self_eq_true] | (with_reducible refine Sx.call_at (f := 16) (fun W hW => w1 W) ?_) | (with_reducible refine Sx.call_at (f := 29) (fun W hW => w2 W) ?_) | (with_reducible refine Sx.call_at (f := 46) (fun W hW => w3 W) ?_) | (with_reducible refine Sx.call_at (f := 45) (fun W hW => w4 W) ?_) | (with_reducible refine Sx.call_at (f := 47) (fun W hW => w5 W) ?_) | (with_reducible refine Sx.call_at (f := 44) (fun W hW => w6 W) ?_) | (with_reducible refine Sx.call_at (f := 28) (fun W hW => w7 W) ?_))
              exact ⟨k + 1, by omega, by omega, vi rfl⟩
            · repeat' (first | simp (disch := omega) only [sxE, w04_SimplestLeast.E, Nat.reduceAdd, Nat.reduceEqDiff, Nat.reduceMul, Nat.reduceSub, Int.reduceAdd, Int.reduceSub, Int.reduceMul, Int.reduceNeg, Int.reduceLT, Int.reduceLE, Int.reduceEq, Int.reduceToNat, ↓reduceIte, Int.reducePow, Nat.reduceLeDiff, Nat.reduceLT, ne_eq, eq_self, List.length_cons, List.length_nil, qxE, d1, d2, d3, beq_self_eq_true] | (with_reducible refine Sx.call_at (f := 16) (fun W hW => w1 W) ?_) | (with_reducible refine Sx.call_at (f := 29) (fun W hW => w2 W) ?_) | (with_reducible refine Sx.call_at (f := 46) (fun W hW => w3 W) ?_) | (with_reducible refine Sx.call_at (f := 45) (fun W hW => w4 W) ?_) | (with_reducible refine Sx.call_at (f := 47) (fun W hW => w5 W) ?_) | (with_reducible refine Sx.call_at (f := 44) (fun W hW => w6 W) ?_) | (with_reducible refine Sx.call_at (f := 28) (fun W hW => w7 W) ?_))
              exact ⟨k + 1, by omega, by omega, vi rfl⟩
        · rw [if_neg hR] at hL
          have hr : r ≠ 0 := fun h => hR (z0.1 h)
          subst hL
          by_cases hky : k < y
          · have hc : ¬ c ≤ 0 := fun h => g1 hky (w8.1 h)
            clear g1 g2 w8 z0 hR
            have d1 := decide_eq_true hky
            have d2 : (k == y) = false := beq_eq_false_iff_ne.2 (by omega)
            have d3 := decide_eq_false hc
            repeat' (first | simp (disch := omega) only [sxE, w04_SimplestLeast.E, Nat.reduceAdd, Nat.reduceEqDiff, Nat.reduceMul, Nat.reduceSub, Int.reduceAdd, Int.reduceSub, Int.reduceMul, Int.reduceNeg, Int.reduceLT, Int.reduceLE, Int.reduceEq, Int.reduceToNat, ↓reduceIte, Int.reducePow, Nat.reduceLeDiff, Nat.reduceLT, ne_eq, eq_self, List.length_cons, List.length_nil, qxE, d1, d2, d3, beq_self_eq_true] | (with_reducible refine Sx.call_at (f := 16) (fun W hW => w1 W) ?_) | (with_reducible refine Sx.call_at (f := 29) (fun W hW => w2 W) ?_) | (with_reducible refine Sx.call_at (f := 46) (fun W hW => w3 W) ?_) | (with_reducible refine Sx.call_at (f := 45) (fun W hW => w4 W) ?_) | (with_reducible refine Sx.call_at (f := 47) (fun W hW => w5 W) ?_) | (with_reducible refine Sx.call_at (f := 44) (fun W hW => w6 W) ?_) | (with_reducible refine Sx.call_at (f := 28) (fun W hW => w7 W) ?_))
            exact ⟨k + 1, by omega, by omega, vi rfl⟩
          · obtain rfl : k = y := by omega
            have hc := w8.2 (g2 rfl).1
            have hx := (g2 rfl).2
            clear g1 g2 w8 z0 hR
            have d1 : decide (k < k) = false := decide_eq_false (by omega)
            have d2 : (k == k) = true := beq_self_eq_true k
            have d3 := decide_eq_true hc
            by_cases hp : 0 < A + 1
            · have e9 := hx hp
              subst e9
              repeat' (first | simp (disch := omega) only [sxE, w04_SimplestLeast.E, Nat.reduceAdd, Nat.reduceEqDiff, Nat.reduceMul, Nat.reduceSub, Int.reduceAdd, Int.reduceSub, Int.reduceMul, Int.reduceNeg, Int.reduceLT, Int.reduceLE, Int.reduceEq, Int.reduceToNat, ↓reduceIte, Int.reducePow, Nat.reduceLeDiff, Nat.reduceLT, ne_eq, eq_self, List.length_cons, List.length_nil, qxE, d1, d2, d3, beq_self_eq_true] | (with_reducible refine Sx.call_at (f := 16) (fun W hW => w1 W) ?_) | (with_reducible refine Sx.call_at (f := 29) (fun W hW => w2 W) ?_) | (with_reducible refine Sx.call_at (f := 46) (fun W hW => w3 W) ?_) | (with_reducible refine Sx.call_at (f := 45) (fun W hW => w4 W) ?_) | (with_reducible refine Sx.call_at (f := 47) (fun W hW => w5 W) ?_) | (with_reducible refine Sx.call_at (f := 44) (fun W hW => w6 W) ?_) | (with_reducible refine Sx.call_at (f := 28) (fun W hW => w7 W) ?_))
              exact ⟨k + 1, by omega, by omega, vi rfl⟩
            · repeat' (first | simp (disch := omega) only [sxE, w04_SimplestLeast.E, Nat.reduceAdd, Nat.reduceEqDiff, Nat.reduceMul, Nat.reduceSub, Int.reduceAdd, Int.reduceSub, Int.reduceMul, Int.reduceNeg, Int.reduceLT, Int.reduceLE, Int.reduceEq, Int.reduceToNat, ↓reduceIte, Int.reducePow, Nat.reduceLeDiff, Nat.reduceLT, ne_eq, eq_self, List.length_cons, List.length_nil, qxE, d1, d2, d3, beq_self_eq_true] | (with_reducible refine Sx.call_at (f := 16) (fun W hW => w1 W) ?_) | (with_reducible refine Sx.call_at (f := 29) (fun W hW => w2 W) ?_) | (with_reducible refine Sx.call_at (f := 46) (fun W hW => w3 W) ?_) | (with_reducible refine Sx.call_at (f := 45) (fun W hW => w4 W) ?_) | (with_reducible refine Sx.call_at (f := 47) (fun W hW => w5 W) ?_) | (with_reducible refine Sx.call_at (f := 44) (fun W hW => w6 W) ?_) | (with_reducible refine Sx.call_at (f := 28) (fun W hW => w7 W) ?_))
              exact ⟨k + 1, by omega, by omega, vi rfl⟩
      · repeat' (first | simp (disch := omega) only [sxE, w04_SimplestLeast.E, Nat.reduceAdd, Nat.reduceEqDiff, Nat.reduceMul, Nat.reduceSub, Int.reduceAdd, Int.reduceSub, Int.reduceMul, Int.reduceNeg, Int.reduceLT, Int.reduceLE, Int.reduceEq, Int.reduceToNat, ↓reduceIte, Int.reducePow, Nat.reduceLeDiff, Nat.reduceLT, ne_eq, eq_self, List.length_cons, List.length_nil, qxE] | (with_reducible refine Sx.call_at (f := 39) (fun W hW => g_known04 W) ?_))
  · have hlf : p1 * q ≤ p * q1 := by omega
    have c0 : 0 < cq p q p1 q1 := hgt.2 (Int.not_le.1 hle)
    clear hle
    have sp := btx_spec hg hf hlf
    have bt := fun W => gx_bt hg hf hlf W
    have hs := sp.fq
    have ls := sp.least p1 q1 hg.pos (Int.le_refl _) hlf
    have hy := hs.pos
    generalize (btx p1 q1 p q).1 = x at *
    generalize (btx p1 q1 p q).2 = y at *
    have s1 : -4611686018427387904 < x ∧ x < 4611686018427387904 := by have := ls.1; unfold ab at *; (repeat' split at *) <;> omega
    have s2 : -4611686018427387904 < y ∧ y < 4611686018427387904 := by omega
    have ly : y ≤ 256 := by omega
    have v1 := fun W => rx_int64 hs.fp s1 W
    have v2 := fun W => rx_int64 hs.fq s2 W
    clear ls s1 s2 hgt
    repeat' (first | simp (disch := omega) only [sxE, w04_SimplestLeast.E, Nat.reduceAdd, Nat.reduceEqDiff, Nat.reduceMul, Nat.reduceSub, Int.reduceAdd, Int.reduceSub, Int.reduceMul, Int.reduceNeg, Int.reduceLT, Int.reduceLE, Int.reduceEq, Int.reduceToNat, ↓reduceIte, Int.reducePow, Nat.reduceLeDiff, Nat.reduceLT, ne_eq, eq_self, List.length_cons, List.length_nil, qxE] | (with_reducible refine Sx.call_at (f := 44) (fun W hW => k1 W) ?_) | (with_reducible refine Sx.call_at (f := 44) (fun W hW => k2 W) ?_) | (with_reducible refine Sx.call_at (f := 28) (fun W hW => r1 W) ?_) | (with_reducible refine Sx.call_at (f := 41) (fun W hW => bt W) ?_) | (with_reducible refine Sx.call_at (f := 45) (fun W hW => v1 W) ?_) | (with_reducible refine Sx.call_at (f := 45) (fun W hW => v2 W) ?_))
    clear k1 k2 r1 bt v1 v2
    rw [w04_SimplestLeast.p2_l]
    refine LX_inv (fun k : Int => ⟨2, [(9, .p 0 0), (10, .p 1 0), (13, .v (.int .i64 y)), (15, .v (.int .i64 x)), (17, .v (.int .i64 k))], [(1, [.bool (sg p), .int .u64 (lb0 (ab p)), .int .u64 (lb1 (ab p)), .int .u64 (lb2 (ab p)), .int .u64 (lb3 (ab p)), .bool (sg q), .int .u64 (lb0 (ab q)), .int .u64 (lb1 (ab q)), .int .u64 (lb2 (ab q)), .int .u64 (lb3 (ab q))]), (0, [.bool (sg p1), .int .u64 (lb0 (ab p1)), .int .u64 (lb1 (ab p1)), .int .u64 (lb2 (ab p1)), .int .u64 (lb3 (ab p1)), .bool (sg q1), .int .u64 (lb0 (ab q1)), .int .u64 (lb1 (ab q1)), .int .u64 (lb2 (ab q1)), .int .u64 (lb3 (ab q1))])], ext0⟩) (fun k => 1 ≤ k ∧ k ≤ y + 1) (fun k => (y + 1 - k).toNat) ?round 1 (by omega) ?start
    case start =>
      simp (disch := omega) only [sxE, w04_SimplestLeast.E, Nat.reduceAdd, Nat.reduceEqDiff, Nat.reduceMul, Nat.reduceSub, Int.reduceAdd, Int.reduceSub, Int.reduceMul, Int.reduceNeg, Int.reduceLT, Int.reduceLE, Int.reduceEq, Int.reduceToNat, ↓reduceIte, Int.reducePow, Nat.reduceLeDiff, Nat.reduceLT, ne_eq, eq_self, List.length_cons, List.length_nil]
    case round =>
      intro k hk
      try dsimp only at hk ⊢
      by_cases hlt : k ≤ y
      · obtain ⟨l1, l2, l3⟩ := lea_small b3 (k := k) (by omega) hg.pos
        obtain ⟨g1, g2⟩ := lea_law sp hg.pos hf.pos hk.1 hlt
        have ik : I64 k := ⟨by omega, by omega⟩
        have fk := (bd_i64 ik).fits
        have fpk : Fits (p1 * k) := (bd_mul hg.bp (bd_i64 ik)).fits
        have fd := fits_ediv fpk hg.ne
        have fm := fits_emod (z := p1 * k) hg.fq hg.ne
        have w1 := fun W => rx_of ik W
        have w2 := fun W => rx_mul hg.fp fk fpk W
        have w3 := fun W => rx_divmod fpk hg.fq hg.ne W
        have w4 := fun W => rx_int64 fd (by unfold ab at l2; split at l2 <;> omega) W
        have w5 := fun W => rx_sign fm W
        have il : I64 (lea p1 q1 k) := by unfold ab at l3; split at l3 <;> exact ⟨by omega, by omega⟩
        have w6 := fun W => g_fraction il ik (by omega) W
        obtain ⟨fl, e, -, -⟩ := fr_facts _ (by decide) l3 (d := k) (by omega)
        have w7 := fun W => rx_rcompare fl.cq hf.cq W
        have w8 := fr_le (p1 := p) (q1 := q) (show 0 < k by omega) fl.pos e
        have z0 := km_eq (p1 * k % q1) 0
        have hL : lea p1 q1 k = if p1 * k % q1 = 0 then p1 * k / q1 else p1 * k / q1 + 1 := rfl
        have l4 : ab (p1 * k / q1) ≤ 2559744 := l2
        clear l1 l2 l3 fpk fd fm fl e
        generalize mn (lea p1 q1 k) k = N at *
        generalize mD (lea p1 q1 k) k = D at *
        generalize lea p1 q1 k = L at *
        generalize p1 * k / q1 = A at *
        generalize p1 * k % q1 = R at *
        generalize p1 * k = Z at *
        generalize cq N D p q = c at *
        generalize cm R 0 = r at *
        have lA : -2559744 ≤ A ∧ A ≤ 2559744 := by unfold ab at l4; split at l4 <;> omega
        by_cases hR : R = 0
        · rw [if_pos hR] at hL
          have hr := z0.2 hR
          subst hL
          by_cases hky : k < y
          · have hc : ¬ c ≤ 0 := fun h => g1 hky (w8.1 h)
            clear g1 g2 w8 z0 hR
            have d1 := decide_eq_true hky
            have d2 : (k == y) = false := beq_eq_false_iff_ne.2 (by omega)
            have d3 := decide_eq_false hc
            repeat' (first | simp (disch := omega) only [sxE, w04_SimplestLeast.E, Nat.reduceAdd, Nat.reduceEqDiff, Nat.reduceMul, Nat.reduceSub, Int.reduceAdd, Int.reduceSub, Int.reduceMul, Int.reduceNeg, Int.reduceLT, Int.reduceLE, Int.reduceEq, Int.reduceToNat, ↓reduceIte, Int.reducePow, Nat.reduceLeDiff, Nat.reduceLT, ne_eq, eq_self, List.length_cons, List.length_nil, qxE, d1, d2, d3, beq_self_eq_true] | (with_reducible refine Sx.call_at (f := 16) (fun W hW => w1 W) ?_) | (with_reducible refine Sx.call_at (f := 29) (fun W hW => w2 W) ?_) | (with_reducible refine Sx.call_at (f := 46) (fun W hW => w3 W) ?_) | (with_reducible refine Sx.call_at (f := 45) (fun W hW => w4 W) ?_) | (with_reducible refine Sx.call_at (f := 47) (fun W hW => w5 W) ?_) | (with_reducible refine Sx.call_at (f := 44) (fun W hW => w6 W) ?_) | (with_reducible refine Sx.call_at (f := 28) (fun W hW => w7 W) ?_))
            exact ⟨k + 1, by omega, by omega, vi rfl⟩
          · obtain rfl : k = y := by omega
            have hc := w8.2 (g2 rfl).1
            have hx := (g2 rfl).2
            clear g1 g2 w8 z0 hR
            have d1 : decide (k < k) = false := decide_eq_false (by omega)
            have d2 : (k == k) = true := beq_self_eq_true k
            have d3 := decide_eq_true hc
            by_cases hp : 0 < L
            · have e9 := hx hp
              subst e9
              repeat' (first | simp (disch := omega) only [sxE, w04_SimplestLeast.E, Nat.reduceAdd, Nat.reduceEqDiff, Nat.reduceMul, Nat.reduceSub, Int.reduceAdd, Int.reduceSub, Int.reduceMul, Int.reduceNeg, Int.reduceLT, Int.reduceLE, Int.reduceEq, Int.reduceToNat, ↓reduceIte, Int.reducePow, Nat.reduceLeDiff, Nat.reduceLT, ne_eq, eq_self, List.length_cons, List.length_nil, qxE, d1, d2, d3, beq_self_eq_true] | (with_reducible refine Sx.call_at (f := 16) (fun W hW => w1 W) ?_) | (with_reducible refine Sx.call_at (f := 29) (fun W hW => w2 W) ?_) | (with_reducible refine Sx.call_at (f := 46) (fun W hW => w3 W) ?_) | (with_reducible refine Sx.call_at (f := 45) (fun W hW => w4 W) ?_) | (with_reducible refine Sx.call_at (f := 47) (fun W hW => w5 W) ?_) | (with_reducible refine Sx.call_at (f := 44) (fun W hW => w6 W) ?_) | (with_reducible refine Sx.call_at (f := 28) (fun W hW => w7 W) ?_))
              exact ⟨k + 1, by omega, by omega, vi rfl⟩
            · repeat' (first | simp (disch := omega) only [sxE, w04_SimplestLeast.E, Nat.reduceAdd, Nat.reduceEqDiff, Nat.reduceMul, Nat.reduceSub, Int.reduceAdd, Int.reduceSub, Int.reduceMul, Int.reduceNeg, Int.reduceLT, Int.reduceLE, Int.reduceEq, Int.reduceToNat, ↓reduceIte, Int.reducePow, Nat.reduceLeDiff, Nat.reduceLT, ne_eq, eq_self, List.length_cons, List.length_nil, qxE, d1, d2, d3, beq_self_eq_true] | (with_reducible refine Sx.call_at (f := 16) (fun W hW => w1 W) ?_) | (with_reducible refine Sx.call_at (f := 29) (fun W hW => w2 W) ?_) | (with_reducible refine Sx.call_at (f := 46) (fun W hW => w3 W) ?_) | (with_reducible refine Sx.call_at (f := 45) (fun W hW => w4 W) ?_) | (with_reducible refine Sx.call_at (f := 47) (fun W hW => w5 W) ?_) | (with_reducible refine Sx.call_at (f := 44) (fun W hW => w6 W) ?_) | (with_reducible refine Sx.call_at (f := 28) (fun W hW => w7 W) ?_))
              exact ⟨k + 1, by omega, by omega, vi rfl⟩
        · rw [if_neg hR] at hL
          have hr : r ≠ 0 := fun h => hR (z0.1 h)
          subst hL
          by_cases hky : k < y
          · have hc : ¬ c ≤ 0 := fun h => g1 hky (w8.1 h)
            clear g1 g2 w8 z0 hR
            have d1 := decide_eq_true hky
            have d2 : (k == y) = false := beq_eq_false_iff_ne.2 (by omega)
            have d3 := decide_eq_false hc
            repeat' (first | simp (disch := omega) only [sxE, w04_SimplestLeast.E, Nat.reduceAdd, Nat.reduceEqDiff, Nat.reduceMul, Nat.reduceSub, Int.reduceAdd, Int.reduceSub, Int.reduceMul, Int.reduceNeg, Int.reduceLT, Int.reduceLE, Int.reduceEq, Int.reduceToNat, ↓reduceIte, Int.reducePow, Nat.reduceLeDiff, Nat.reduceLT, ne_eq, eq_self, List.length_cons, List.length_nil, qxE, d1, d2, d3, beq_self_eq_true] | (with_reducible refine Sx.call_at (f := 16) (fun W hW => w1 W) ?_) | (with_reducible refine Sx.call_at (f := 29) (fun W hW => w2 W) ?_) | (with_reducible refine Sx.call_at (f := 46) (fun W hW => w3 W) ?_) | (with_reducible refine Sx.call_at (f := 45) (fun W hW => w4 W) ?_) | (with_reducible refine Sx.call_at (f := 47) (fun W hW => w5 W) ?_) | (with_reducible refine Sx.call_at (f := 44) (fun W hW => w6 W) ?_) | (with_reducible refine Sx.call_at (f := 28) (fun W hW => w7 W) ?_))
            exact ⟨k + 1, by omega, by omega, vi rfl⟩
          · obtain rfl : k = y := by omega
            have hc := w8.2 (g2 rfl).1
            have hx := (g2 rfl).2
            clear g1 g2 w8 z0 hR
            have d1 : decide (k < k) = false := decide_eq_false (by omega)
            have d2 : (k == k) = true := beq_self_eq_true k
            have d3 := decide_eq_true hc
            by_cases hp : 0 < A + 1
            · have e9 := hx hp
              subst e9
              repeat' (first | simp (disch := omega) only [sxE, w04_SimplestLeast.E, Nat.reduceAdd, Nat.reduceEqDiff, Nat.reduceMul, Nat.reduceSub, Int.reduceAdd, Int.reduceSub, Int.reduceMul, Int.reduceNeg, Int.reduceLT, Int.reduceLE, Int.reduceEq, Int.reduceToNat, ↓reduceIte, Int.reducePow, Nat.reduceLeDiff, Nat.reduceLT, ne_eq, eq_self, List.length_cons, List.length_nil, qxE, d1, d2, d3, beq_self_eq_true] | (with_reducible refine Sx.call_at (f := 16) (fun W hW => w1 W) ?_) | (with_reducible refine Sx.call_at (f := 29) (fun W hW => w2 W) ?_) | (with_reducible refine Sx.call_at (f := 46) (fun W hW => w3 W) ?_) | (with_reducible refine Sx.call_at (f := 45) (fun W hW => w4 W) ?_) | (with_reducible refine Sx.call_at (f := 47) (fun W hW => w5 W) ?_) | (with_reducible refine Sx.call_at (f := 44) (fun W hW => w6 W) ?_) | (with_reducible refine Sx.call_at (f := 28) (fun W hW => w7 W) ?_))
              exact ⟨k + 1, by omega, by omega, vi rfl⟩
            · repeat' (first | simp (disch := omega) only [sxE, w04_SimplestLeast.E, Nat.reduceAdd, Nat.reduceEqDiff, Nat.reduceMul, Nat.reduceSub, Int.reduceAdd, Int.reduceSub, Int.reduceMul, Int.reduceNeg, Int.reduceLT, Int.reduceLE, Int.reduceEq, Int.reduceToNat, ↓reduceIte, Int.reducePow, Nat.reduceLeDiff, Nat.reduceLT, ne_eq, eq_self, List.length_cons, List.length_nil, qxE, d1, d2, d3, beq_self_eq_true] | (with_reducible refine Sx.call_at (f := 16) (fun W hW => w1 W) ?_) | (with_reducible refine Sx.call_at (f := 29) (fun W hW => w2 W) ?_) | (with_reducible refine Sx.call_at (f := 46) (fun W hW => w3 W) ?_) | (with_reducible refine Sx.call_at (f := 45) (fun W hW => w4 W) ?_) | (with_reducible refine Sx.call_at (f := 47) (fun W hW => w5 W) ?_) | (with_reducible refine Sx.call_at (f := 44) (fun W hW => w6 W) ?_) | (with_reducible refine Sx.call_at (f := 28) (fun W hW => w7 W) ?_))
              exact ⟨k + 1, by omega, by omega, vi rfl⟩
      · repeat' (first | simp (disch := omega) only [sxE, w04_SimplestLeast.E, Nat.reduceAdd, Nat.reduceEqDiff, Nat.reduceMul, Nat.reduceSub, Int.reduceAdd, Int.reduceSub, Int.reduceMul, Int.reduceNeg, Int.reduceLT, Int.reduceLE, Int.reduceEq, Int.reduceToNat, ↓reduceIte, Int.reducePow, Nat.reduceLeDiff, Nat.reduceLT, ne_eq, eq_self, List.length_cons, List.length_nil, qxE] | (with_reducible refine Sx.call_at (f := 39) (fun W hW => g_known04 W) ?_))

/-! ### The row -/
set_option maxRecDepth 100000 in
theorem lifted (os : Os) (started : os.Started) (H : Type) (enc : TypeId × Value → H) :
    ReturnsInHanded {} Try.checked os 11 .any (Rows.simplestLeastSpec.pre6 enc Try.prog Try.f11 Rows.simplestLeastRow.domain false) (Rows.simplestLeastSpec.post enc Try.prog Try.f11 false true false false) := by
  refine returnsInHanded_of_change_sized (C := Try.checked) own started (by kernel_rfl) Try.func11
    (ChangeSpec.witness6 (enc := enc) (C := Try.checked) false ⟨#[], #[.int .i64 0, .int .i64 0, .int .u8 0, .int .u8 0], []⟩ 8 (by kernel_rfl) (by kernel_rfl) (by kernel_rfl) (by kernel_rfl)) ?_
  intro W base args ds gs before hval0 hW hcnd hsz _
  have hval : ∀ (j : Nat) t v, Try.f11.params[j]? = some t → args[j]? = some v → Value.okWide Try.prog W .any base t v := hval0
  have hW' := hW
  obtain ⟨p, q, hA0, hV, rfl, hfz, hnd⟩ := hW
  have hA : DataW.TrodAll enc Try.prog W 0 (fun _ => true) true Try.f11.params.toList args.toList ds p := hA0
  rw [Try.params11] at hA hval
  obtain ⟨v0, vs0, d0, ds0, p0, q0, hargs, rfl, rfl, g0, r0⟩ := trodAll_cons hA
  obtain ⟨v1, vs1, d1, ds1, p1, q1, rfl, rfl, rfl, g1, r1⟩ := trodAll_cons r0
  obtain ⟨v2, vs2, d2, ds2, p2, q2, rfl, rfl, rfl, g2, r2⟩ := trodAll_cons r1
  obtain ⟨v3, vs3, d3, ds3, p3, q3, rfl, rfl, rfl, g3, r3⟩ := trodAll_cons r2
  obtain ⟨rfl, rfl, rfl⟩ := trodAll_nil r3
  obtain rfl : args = #[v0, v1, v2, v3] := by cases args; simp_all
  obtain ⟨rfl, rfl⟩ := trodVars_none hV
  have hlt : ∀ x ∈ (p0 ++ (p1 ++ (p2 ++ (p3 ++ [])))) ++ [], x.block < W.heap.size := fun x hx => hW'.lt x hx
  obtain ⟨a0, rfl, rfl, rfl, w0⟩ := open_int Try.underlying2 (hval 0 2 v0 rfl rfl) g0
  obtain ⟨a1, rfl, rfl, rfl, w1⟩ := open_int Try.underlying2 (hval 1 2 v1 rfl rfl) g1
  obtain ⟨a2, rfl, rfl, rfl, w2⟩ := open_int Try.underlying5 (hval 2 5 v2 rfl rfl) g2
  obtain ⟨a3, rfl, rfl, rfl, w3⟩ := open_int Try.underlying5 (hval 3 5 v3 rfl rfl) g3
  refine (walk W a0 (I64.of_wf w0) a1 (I64.of_wf w1) a2 (U8.of_wf w2) a3 (U8.of_wf w3)).mono fun e W' ⟨he, hb⟩ => ?_
  subst he
  exact ⟨_, rfl, law_post laidOut (by kernel_rfl) rfl rfl Try.underlying4 hW' rfl rfl rfl hb⟩

theorem over : Rows.simplestLeastRow.holds Try.pinned (OpenSpec.ofChange Rows.simplestLeastSpec) :=
  OpenClaim.holds_of_wide 11 Try.f11 rfl rfl rfl rfl rfl rfl rfl ⟨rfl, rfl, rfl, rfl, rfl⟩ rfl rfl rfl rfl rfl (by kernel_rfl) Try.func11 (by kernel_rfl)
    (of_decide_eq_true (by kernel_rfl)) (by unfold Func.isWrapper; first | (rw [if_pos (by decide +kernel)]; kernel_rfl) | (rw [if_neg (by decide +kernel)]; exact ⟨rfl, rfl⟩))
    (fun os started H enc _ => lifted os started H enc)

/-- The given statement. -/
theorem proved : Rows.SimplestLeastSaid :=
  over
#print axioms proved
end Go.Proofs.Ytlanoclibdhpmaa.simplestLeast

