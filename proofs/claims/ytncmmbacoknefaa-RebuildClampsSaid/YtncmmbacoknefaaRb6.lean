/- Several texts in one: Va, L20, Open. -/
import Derived.Test.YtncmmbacoknefaaRows
import Derived.OpenShut
import Derived.SizedLaws
import Derived.Laws.IdiomArrays
import Derived.Test.YtncmmbacoknefaaRb2
import Derived.Test.YtncmmbacoknefaaRb4
import Derived.Test.YtncmmbacoknefaaRb5

/- Va: What Value of rebuild and of its reference returns. (Printed by gen/value.py.) -/
namespace Go.Proofs.Ytncmmbacoknefaa
open Go Go.RowKit Sx
set_option linter.unusedVariables false
set_option linter.unusedSimpArgs false
def vz (z : Int) : Int := if ab z < 340282366920938463463374607431768211456 then z else 0
def vl (s : Int) : Int := if s < -9223372036854775808 then -9223372036854775808 else if 9223372036854775807 < s then 9223372036854775807 else s
theorem small128 {z : Int} (h : Fits z) : ab z < 340282366920938463463374607431768211456 ↔ lb3 (ab z) = 0 ∧ lb2 (ab z) = 0 := by
  have h0 := ab_nonneg z
  have h4 := mv_me (z := ab z) ⟨h0, (fits_lt z).1 h⟩
  have b0 := lb0_in (ab z)
  have b1 := lb1_in (ab z)
  have b2 := lb2_in (ab z)
  have b3 := lb3_in (ab z)
  generalize lb0 (ab z) = a at *
  generalize lb1 (ab z) = b at *
  generalize lb2 (ab z) = c at *
  generalize lb3 (ab z) = d at *
  unfold MV at h4
  obtain ⟨a1, a2⟩ := b0
  obtain ⟨c1, c2⟩ := b1
  obtain ⟨d1, d2⟩ := b2
  obtain ⟨e1, e2⟩ := b3
  omega
theorem vz_fits {z a : Int} (hz : ab (vz z) < 340282366920938463463374607431768211456) (ha : Bd 194 a) : Fits (vz z + a) := by
  have b0 : Bd 128 (vz z) := hz
  have b1 : Bd 195 (vz z + a) := bd_add b0 ha (by decide) (by decide)
  exact b1.fits
theorem vz_small (z : Int) : ab (vz z) < 340282366920938463463374607431768211456 := by
  unfold vz
  split
  · assumption
  · decide
theorem bd_at {p q n : Int} (h : Fq p q) (hn : U64 n) : Bd 194 (atq p q n) := by
  have b1 := bd_mul h.bp (bd_u64 hn)
  have b3 : Bd 194 (2 * (p * n) + q) := bd_add (bd_mul bd_two b1) h.bq (by decide) (by decide)
  exact bd_of_le b3 (ab_fdiv_le _ (by have := h.pos; omega))
theorem bd_fits' {z : Int} (h : ab z < 340282366920938463463374607431768211456) : Fits z := by
  have b0 : Bd 128 z := h
  exact b0.fits
set_option maxRecDepth 100000 in
set_option maxHeartbeats 4000000 in
theorem gx_value {b s : Value} {t : Bool} {z p q dt : Int} (h : RW b t z) (hq : CQ s p q) (hd : U64 dt) (W : World) : Gives Try.prog 34 [b, s, .int .u64 dt] W (· = .int .i64 (vl (vz z + atq p q dt))) := by
  have at1 := fun W => gx_rat hq hd W
  have f := hq.fq
  have ba := bd_at f hd
  have fa := ba.fits
  have v1 := fun W => gy_valid h W
  obtain ⟨s0, s1, s2, s3, s4, s5, s6, s7, s8, s9, rfl⟩ := hq.ten
  clear hq f
  have fs := vz_fits (z := z) (vz_small z) ba
  have n1 := fun W => g_int64 fs.is W
  have n2 := fun W => gx_sign fs W
  have ad : ∀ W, Gives Try.prog 84 [WX (vz z), WX (atq p q dt)] W (· = .tuple #[WX (vz z + atq p q dt), .bool true]) := fun W => gx_add (bd_fits' (vz_small z)) fa fs W
  have ad0 : ∀ W, Gives Try.prog 84 [NZ, WX (atq p q dt)] W (· = .tuple #[WX (0 + atq p q dt), .bool true]) := fun W => by
    have h1 : Fits (0 + atq p q dt) := by rw [Int.zero_add]; exact fa
    exact gives_eq (g_add nz_is fa.is W) (tup2 (by rw [cl_fit h1]; rfl) (by rw [fb_fit h1]))
  have e0 : vz 0 = 0 := by decide
  have eN : ab z < 340282366920938463463374607431768211456 → vz z = z := fun e => by unfold vz; rw [if_pos e]
  have eB : ¬ ab z < 340282366920938463463374607431768211456 → vz z = 0 := fun e => by unfold vz; rw [if_neg e]
  refine gives_known en_rebuild_Value ?_
  have fin : (i6b (vz z + atq p q dt) = true ∧ i6v (vz z + atq p q dt) = vl (vz z + atq p q dt)) ∨ (i6b (vz z + atq p q dt) = false ∧ i6v (vz z + atq p q dt) = 0 ∧ cm (vz z + atq p q dt) 0 < 0 ∧ sg (vz z + atq p q dt) = true ∧ vl (vz z + atq p q dt) = -9223372036854775808) ∨ (i6b (vz z + atq p q dt) = false ∧ i6v (vz z + atq p q dt) = 0 ∧ ¬ cm (vz z + atq p q dt) 0 < 0 ∧ sg (vz z + atq p q dt) = false ∧ vl (vz z + atq p q dt) = 9223372036854775807) := by
    generalize vz z + atq p q dt = S
    unfold i6v i6b vl sg
    rw [km_lt]
    by_cases g1 : S < -9223372036854775808
    · rw [decide_eq_false (show ¬ (-9223372036854775808 ≤ S ∧ S ≤ 9223372036854775807) by omega), if_pos g1, decide_eq_true (show S < 0 by omega)]
      exact .inr (.inl ⟨rfl, rfl, by omega, rfl, rfl⟩)
    · by_cases g2 : 9223372036854775807 < S
      · rw [decide_eq_false (show ¬ (-9223372036854775808 ≤ S ∧ S ≤ 9223372036854775807) by omega), if_neg g1, if_pos g2, decide_eq_false (show ¬ S < 0 by omega)]
        exact .inr (.inr ⟨rfl, rfl, by omega, rfl, rfl⟩)
      · rw [decide_eq_true (show -9223372036854775808 ≤ S ∧ S ≤ 9223372036854775807 by omega), if_neg g1, if_neg g2]
        exact .inl ⟨rfl, rfl⟩
  rcases h with ⟨rfl, rfl, h⟩ | ⟨rfl, rfl, rfl⟩
  · have hs := small128 h
    by_cases hz : ab z < 340282366920938463463374607431768211456
    · obtain ⟨k3, k2⟩ := hs.1 hz
      have d3 : (lb3 (ab z) == 0) = true := beq_iff_eq.2 k3
      have d2 : (lb2 (ab z) == 0) = true := beq_iff_eq.2 k2
      simp only [eN hz] at ad n1 n2 fin ⊢
      clear hs hz eN eB ad0 e0 fs ba
      generalize hS : z + atq p q dt = S at *
      generalize atq p q dt = A at *
      rcases fin with ⟨g1, g2⟩ | ⟨g1, g2, g3, g4, g5⟩ | ⟨g1, g2, g3, g4, g5⟩
      · refine known_of (enter Try.func34 rebuild_Value.ok (args := [_, _, _]) (by simp) ?_)
        repeat' (first | simp (disch := omega) only [sxE, rebuild_Value.E, Nat.reduceAdd, Nat.reduceEqDiff, Nat.reduceMul, Nat.reduceSub, Int.reduceAdd, Int.reduceSub, Int.reduceMul, Int.reduceNeg, Int.reduceLT, Int.reduceLE, Int.reduceEq, Int.reduceToNat, ↓reduceIte, Int.reducePow, Nat.reduceLeDiff, Nat.reduceLT, ne_eq, eq_self, List.length_cons, List.length_nil, qxE, d3, d2, g1, g2, beq_self_eq_true] | (with_reducible refine Sx.call_at (f := 107) (fun W hW => v1 W) ?_) | (with_reducible refine Sx.call_at (f := 85) (fun W hW => at1 W) ?_) | (with_reducible refine Sx.call_at (f := 84) (fun W hW => ad W) ?_) | (with_reducible refine Sx.call_at (f := 86) (fun W hW => n1 W) ?_) | (with_reducible refine Sx.call_at (f := 87) (fun W hW => n2 W) ?_))
      · refine known_of (enter Try.func34 rebuild_Value.ok (args := [_, _, _]) (by simp) ?_)
        repeat' (first | simp (disch := omega) only [sxE, rebuild_Value.E, Nat.reduceAdd, Nat.reduceEqDiff, Nat.reduceMul, Nat.reduceSub, Int.reduceAdd, Int.reduceSub, Int.reduceMul, Int.reduceNeg, Int.reduceLT, Int.reduceLE, Int.reduceEq, Int.reduceToNat, ↓reduceIte, Int.reducePow, Nat.reduceLeDiff, Nat.reduceLT, ne_eq, eq_self, List.length_cons, List.length_nil, qxE, d3, d2, g1, g2, g5, beq_self_eq_true] | (with_reducible refine Sx.call_at (f := 107) (fun W hW => v1 W) ?_) | (with_reducible refine Sx.call_at (f := 85) (fun W hW => at1 W) ?_) | (with_reducible refine Sx.call_at (f := 84) (fun W hW => ad W) ?_) | (with_reducible refine Sx.call_at (f := 86) (fun W hW => n1 W) ?_) | (with_reducible refine Sx.call_at (f := 87) (fun W hW => n2 W) ?_))
      · refine known_of (enter Try.func34 rebuild_Value.ok (args := [_, _, _]) (by simp) ?_)
        repeat' (first | simp (disch := omega) only [sxE, rebuild_Value.E, Nat.reduceAdd, Nat.reduceEqDiff, Nat.reduceMul, Nat.reduceSub, Int.reduceAdd, Int.reduceSub, Int.reduceMul, Int.reduceNeg, Int.reduceLT, Int.reduceLE, Int.reduceEq, Int.reduceToNat, ↓reduceIte, Int.reducePow, Nat.reduceLeDiff, Nat.reduceLT, ne_eq, eq_self, List.length_cons, List.length_nil, qxE, d3, d2, g1, g2, g5, beq_self_eq_true] | (with_reducible refine Sx.call_at (f := 107) (fun W hW => v1 W) ?_) | (with_reducible refine Sx.call_at (f := 85) (fun W hW => at1 W) ?_) | (with_reducible refine Sx.call_at (f := 84) (fun W hW => ad W) ?_) | (with_reducible refine Sx.call_at (f := 86) (fun W hW => n1 W) ?_) | (with_reducible refine Sx.call_at (f := 87) (fun W hW => n2 W) ?_))
    · simp only [eB hz] at ad n1 n2 fin ⊢
      have hn : lb3 (ab z) ≠ 0 ∨ lb2 (ab z) ≠ 0 := by
        rcases Decidable.em (lb3 (ab z) = 0) with e | e
        · exact .inr fun e' => hz (hs.2 ⟨e, e'⟩)
        · exact .inl e
      clear hs hz eN eB ad0 e0 fs ba
      generalize hS : 0 + atq p q dt = S at *
      generalize atq p q dt = A at *
      rcases fin with ⟨g1, g2⟩ | ⟨g1, g2, g3, g4, g5⟩ | ⟨g1, g2, g3, g4, g5⟩
      · by_cases k3 : lb3 (ab z) = 0
        · have d3 : (lb3 (ab z) == 0) = true := beq_iff_eq.2 k3
          by_cases k2 : lb2 (ab z) = 0
          · exact absurd hn (by simp [k3, k2])
          · have d2 : (lb2 (ab z) == 0) = false := beq_eq_false_iff_ne.2 k2
            refine known_of (enter Try.func34 rebuild_Value.ok (args := [_, _, _]) (by simp) ?_)
            repeat' (first | simp (disch := omega) only [sxE, rebuild_Value.E, Nat.reduceAdd, Nat.reduceEqDiff, Nat.reduceMul, Nat.reduceSub, Int.reduceAdd, Int.reduceSub, Int.reduceMul, Int.reduceNeg, Int.reduceLT, Int.reduceLE, Int.reduceEq, Int.reduceToNat, ↓reduceIte, Int.reducePow, Nat.reduceLeDiff, Nat.reduceLT, ne_eq, eq_self, List.length_cons, List.length_nil, qxE, d3, d2, g1, g2, beq_self_eq_true] | (with_reducible refine Sx.call_at (f := 107) (fun W hW => v1 W) ?_) | (with_reducible refine Sx.call_at (f := 85) (fun W hW => at1 W) ?_) | (with_reducible refine Sx.call_at (f := 84) (fun W hW => ad W) ?_) | (with_reducible refine Sx.call_at (f := 86) (fun W hW => n1 W) ?_) | (with_reducible refine Sx.call_at (f := 87) (fun W hW => n2 W) ?_))
        · have d3 : (lb3 (ab z) == 0) = false := beq_eq_false_iff_ne.2 k3
          by_cases k2 : lb2 (ab z) = 0
          · have d2 : (lb2 (ab z) == 0) = true := beq_iff_eq.2 k2
            refine known_of (enter Try.func34 rebuild_Value.ok (args := [_, _, _]) (by simp) ?_)
            repeat' (first | simp (disch := omega) only [sxE, rebuild_Value.E, Nat.reduceAdd, Nat.reduceEqDiff, Nat.reduceMul, Nat.reduceSub, Int.reduceAdd, Int.reduceSub, Int.reduceMul, Int.reduceNeg, Int.reduceLT, Int.reduceLE, Int.reduceEq, Int.reduceToNat, ↓reduceIte, Int.reducePow, Nat.reduceLeDiff, Nat.reduceLT, ne_eq, eq_self, List.length_cons, List.length_nil, qxE, d3, d2, g1, g2, beq_self_eq_true] | (with_reducible refine Sx.call_at (f := 107) (fun W hW => v1 W) ?_) | (with_reducible refine Sx.call_at (f := 85) (fun W hW => at1 W) ?_) | (with_reducible refine Sx.call_at (f := 84) (fun W hW => ad W) ?_) | (with_reducible refine Sx.call_at (f := 86) (fun W hW => n1 W) ?_) | (with_reducible refine Sx.call_at (f := 87) (fun W hW => n2 W) ?_))
          · have d2 : (lb2 (ab z) == 0) = false := beq_eq_false_iff_ne.2 k2
            refine known_of (enter Try.func34 rebuild_Value.ok (args := [_, _, _]) (by simp) ?_)
            repeat' (first | simp (disch := omega) only [sxE, rebuild_Value.E, Nat.reduceAdd, Nat.reduceEqDiff, Nat.reduceMul, Nat.reduceSub, Int.reduceAdd, Int.reduceSub, Int.reduceMul, Int.reduceNeg, Int.reduceLT, Int.reduceLE, Int.reduceEq, Int.reduceToNat, ↓reduceIte, Int.reducePow, Nat.reduceLeDiff, Nat.reduceLT, ne_eq, eq_self, List.length_cons, List.length_nil, qxE, d3, d2, g1, g2, beq_self_eq_true] | (with_reducible refine Sx.call_at (f := 107) (fun W hW => v1 W) ?_) | (with_reducible refine Sx.call_at (f := 85) (fun W hW => at1 W) ?_) | (with_reducible refine Sx.call_at (f := 84) (fun W hW => ad W) ?_) | (with_reducible refine Sx.call_at (f := 86) (fun W hW => n1 W) ?_) | (with_reducible refine Sx.call_at (f := 87) (fun W hW => n2 W) ?_))
      · by_cases k3 : lb3 (ab z) = 0
        · have d3 : (lb3 (ab z) == 0) = true := beq_iff_eq.2 k3
          by_cases k2 : lb2 (ab z) = 0
          · exact absurd hn (by simp [k3, k2])
          · have d2 : (lb2 (ab z) == 0) = false := beq_eq_false_iff_ne.2 k2
            refine known_of (enter Try.func34 rebuild_Value.ok (args := [_, _, _]) (by simp) ?_)
            repeat' (first | simp (disch := omega) only [sxE, rebuild_Value.E, Nat.reduceAdd, Nat.reduceEqDiff, Nat.reduceMul, Nat.reduceSub, Int.reduceAdd, Int.reduceSub, Int.reduceMul, Int.reduceNeg, Int.reduceLT, Int.reduceLE, Int.reduceEq, Int.reduceToNat, ↓reduceIte, Int.reducePow, Nat.reduceLeDiff, Nat.reduceLT, ne_eq, eq_self, List.length_cons, List.length_nil, qxE, d3, d2, g1, g2, g5, beq_self_eq_true] | (with_reducible refine Sx.call_at (f := 107) (fun W hW => v1 W) ?_) | (with_reducible refine Sx.call_at (f := 85) (fun W hW => at1 W) ?_) | (with_reducible refine Sx.call_at (f := 84) (fun W hW => ad W) ?_) | (with_reducible refine Sx.call_at (f := 86) (fun W hW => n1 W) ?_) | (with_reducible refine Sx.call_at (f := 87) (fun W hW => n2 W) ?_))
        · have d3 : (lb3 (ab z) == 0) = false := beq_eq_false_iff_ne.2 k3
          by_cases k2 : lb2 (ab z) = 0
          · have d2 : (lb2 (ab z) == 0) = true := beq_iff_eq.2 k2
            refine known_of (enter Try.func34 rebuild_Value.ok (args := [_, _, _]) (by simp) ?_)
            repeat' (first | simp (disch := omega) only [sxE, rebuild_Value.E, Nat.reduceAdd, Nat.reduceEqDiff, Nat.reduceMul, Nat.reduceSub, Int.reduceAdd, Int.reduceSub, Int.reduceMul, Int.reduceNeg, Int.reduceLT, Int.reduceLE, Int.reduceEq, Int.reduceToNat, ↓reduceIte, Int.reducePow, Nat.reduceLeDiff, Nat.reduceLT, ne_eq, eq_self, List.length_cons, List.length_nil, qxE, d3, d2, g1, g2, g5, beq_self_eq_true] | (with_reducible refine Sx.call_at (f := 107) (fun W hW => v1 W) ?_) | (with_reducible refine Sx.call_at (f := 85) (fun W hW => at1 W) ?_) | (with_reducible refine Sx.call_at (f := 84) (fun W hW => ad W) ?_) | (with_reducible refine Sx.call_at (f := 86) (fun W hW => n1 W) ?_) | (with_reducible refine Sx.call_at (f := 87) (fun W hW => n2 W) ?_))
          · have d2 : (lb2 (ab z) == 0) = false := beq_eq_false_iff_ne.2 k2
            refine known_of (enter Try.func34 rebuild_Value.ok (args := [_, _, _]) (by simp) ?_)
            repeat' (first | simp (disch := omega) only [sxE, rebuild_Value.E, Nat.reduceAdd, Nat.reduceEqDiff, Nat.reduceMul, Nat.reduceSub, Int.reduceAdd, Int.reduceSub, Int.reduceMul, Int.reduceNeg, Int.reduceLT, Int.reduceLE, Int.reduceEq, Int.reduceToNat, ↓reduceIte, Int.reducePow, Nat.reduceLeDiff, Nat.reduceLT, ne_eq, eq_self, List.length_cons, List.length_nil, qxE, d3, d2, g1, g2, g5, beq_self_eq_true] | (with_reducible refine Sx.call_at (f := 107) (fun W hW => v1 W) ?_) | (with_reducible refine Sx.call_at (f := 85) (fun W hW => at1 W) ?_) | (with_reducible refine Sx.call_at (f := 84) (fun W hW => ad W) ?_) | (with_reducible refine Sx.call_at (f := 86) (fun W hW => n1 W) ?_) | (with_reducible refine Sx.call_at (f := 87) (fun W hW => n2 W) ?_))
      · by_cases k3 : lb3 (ab z) = 0
        · have d3 : (lb3 (ab z) == 0) = true := beq_iff_eq.2 k3
          by_cases k2 : lb2 (ab z) = 0
          · exact absurd hn (by simp [k3, k2])
          · have d2 : (lb2 (ab z) == 0) = false := beq_eq_false_iff_ne.2 k2
            refine known_of (enter Try.func34 rebuild_Value.ok (args := [_, _, _]) (by simp) ?_)
            repeat' (first | simp (disch := omega) only [sxE, rebuild_Value.E, Nat.reduceAdd, Nat.reduceEqDiff, Nat.reduceMul, Nat.reduceSub, Int.reduceAdd, Int.reduceSub, Int.reduceMul, Int.reduceNeg, Int.reduceLT, Int.reduceLE, Int.reduceEq, Int.reduceToNat, ↓reduceIte, Int.reducePow, Nat.reduceLeDiff, Nat.reduceLT, ne_eq, eq_self, List.length_cons, List.length_nil, qxE, d3, d2, g1, g2, g5, beq_self_eq_true] | (with_reducible refine Sx.call_at (f := 107) (fun W hW => v1 W) ?_) | (with_reducible refine Sx.call_at (f := 85) (fun W hW => at1 W) ?_) | (with_reducible refine Sx.call_at (f := 84) (fun W hW => ad W) ?_) | (with_reducible refine Sx.call_at (f := 86) (fun W hW => n1 W) ?_) | (with_reducible refine Sx.call_at (f := 87) (fun W hW => n2 W) ?_))
        · have d3 : (lb3 (ab z) == 0) = false := beq_eq_false_iff_ne.2 k3
          by_cases k2 : lb2 (ab z) = 0
          · have d2 : (lb2 (ab z) == 0) = true := beq_iff_eq.2 k2
            refine known_of (enter Try.func34 rebuild_Value.ok (args := [_, _, _]) (by simp) ?_)
            repeat' (first | simp (disch := omega) only [sxE, rebuild_Value.E, Nat.reduceAdd, Nat.reduceEqDiff, Nat.reduceMul, Nat.reduceSub, Int.reduceAdd, Int.reduceSub, Int.reduceMul, Int.reduceNeg, Int.reduceLT, Int.reduceLE, Int.reduceEq, Int.reduceToNat, ↓reduceIte, Int.reducePow, Nat.reduceLeDiff, Nat.reduceLT, ne_eq, eq_self, List.length_cons, List.length_nil, qxE, d3, d2, g1, g2, g5, beq_self_eq_true] | (with_reducible refine Sx.call_at (f := 107) (fun W hW => v1 W) ?_) | (with_reducible refine Sx.call_at (f := 85) (fun W hW => at1 W) ?_) | (with_reducible refine Sx.call_at (f := 84) (fun W hW => ad W) ?_) | (with_reducible refine Sx.call_at (f := 86) (fun W hW => n1 W) ?_) | (with_reducible refine Sx.call_at (f := 87) (fun W hW => n2 W) ?_))
          · have d2 : (lb2 (ab z) == 0) = false := beq_eq_false_iff_ne.2 k2
            refine known_of (enter Try.func34 rebuild_Value.ok (args := [_, _, _]) (by simp) ?_)
            repeat' (first | simp (disch := omega) only [sxE, rebuild_Value.E, Nat.reduceAdd, Nat.reduceEqDiff, Nat.reduceMul, Nat.reduceSub, Int.reduceAdd, Int.reduceSub, Int.reduceMul, Int.reduceNeg, Int.reduceLT, Int.reduceLE, Int.reduceEq, Int.reduceToNat, ↓reduceIte, Int.reducePow, Nat.reduceLeDiff, Nat.reduceLT, ne_eq, eq_self, List.length_cons, List.length_nil, qxE, d3, d2, g1, g2, g5, beq_self_eq_true] | (with_reducible refine Sx.call_at (f := 107) (fun W hW => v1 W) ?_) | (with_reducible refine Sx.call_at (f := 85) (fun W hW => at1 W) ?_) | (with_reducible refine Sx.call_at (f := 84) (fun W hW => ad W) ?_) | (with_reducible refine Sx.call_at (f := 86) (fun W hW => n1 W) ?_) | (with_reducible refine Sx.call_at (f := 87) (fun W hW => n2 W) ?_))
  · simp only [e0] at ad n1 n2 fin ⊢
    clear eN eB e0 fs ba
    generalize hS : 0 + atq p q dt = S at *
    generalize atq p q dt = A at *
    rcases fin with ⟨g1, g2⟩ | ⟨g1, g2, g3, g4, g5⟩ | ⟨g1, g2, g3, g4, g5⟩
    · refine known_of (enter Try.func34 rebuild_Value.ok (args := [_, _, _]) (by simp) ?_)
      repeat' (first | simp (disch := omega) only [sxE, rebuild_Value.E, Nat.reduceAdd, Nat.reduceEqDiff, Nat.reduceMul, Nat.reduceSub, Int.reduceAdd, Int.reduceSub, Int.reduceMul, Int.reduceNeg, Int.reduceLT, Int.reduceLE, Int.reduceEq, Int.reduceToNat, ↓reduceIte, Int.reducePow, Nat.reduceLeDiff, Nat.reduceLT, ne_eq, eq_self, List.length_cons, List.length_nil, qxE, g1, g2, beq_self_eq_true] | (with_reducible refine Sx.call_at (f := 107) (fun W hW => v1 W) ?_) | (with_reducible refine Sx.call_at (f := 85) (fun W hW => at1 W) ?_) | (with_reducible refine Sx.call_at (f := 84) (fun W hW => ad W) ?_) | (with_reducible refine Sx.call_at (f := 84) (fun W hW => ad0 W) ?_) | (with_reducible refine Sx.call_at (f := 86) (fun W hW => n1 W) ?_) | (with_reducible refine Sx.call_at (f := 87) (fun W hW => n2 W) ?_))
    · refine known_of (enter Try.func34 rebuild_Value.ok (args := [_, _, _]) (by simp) ?_)
      repeat' (first | simp (disch := omega) only [sxE, rebuild_Value.E, Nat.reduceAdd, Nat.reduceEqDiff, Nat.reduceMul, Nat.reduceSub, Int.reduceAdd, Int.reduceSub, Int.reduceMul, Int.reduceNeg, Int.reduceLT, Int.reduceLE, Int.reduceEq, Int.reduceToNat, ↓reduceIte, Int.reducePow, Nat.reduceLeDiff, Nat.reduceLT, ne_eq, eq_self, List.length_cons, List.length_nil, qxE, g1, g2, g5, beq_self_eq_true] | (with_reducible refine Sx.call_at (f := 107) (fun W hW => v1 W) ?_) | (with_reducible refine Sx.call_at (f := 85) (fun W hW => at1 W) ?_) | (with_reducible refine Sx.call_at (f := 84) (fun W hW => ad W) ?_) | (with_reducible refine Sx.call_at (f := 84) (fun W hW => ad0 W) ?_) | (with_reducible refine Sx.call_at (f := 86) (fun W hW => n1 W) ?_) | (with_reducible refine Sx.call_at (f := 87) (fun W hW => n2 W) ?_))
    · refine known_of (enter Try.func34 rebuild_Value.ok (args := [_, _, _]) (by simp) ?_)
      repeat' (first | simp (disch := omega) only [sxE, rebuild_Value.E, Nat.reduceAdd, Nat.reduceEqDiff, Nat.reduceMul, Nat.reduceSub, Int.reduceAdd, Int.reduceSub, Int.reduceMul, Int.reduceNeg, Int.reduceLT, Int.reduceLE, Int.reduceEq, Int.reduceToNat, ↓reduceIte, Int.reducePow, Nat.reduceLeDiff, Nat.reduceLT, ne_eq, eq_self, List.length_cons, List.length_nil, qxE, g1, g2, g5, beq_self_eq_true] | (with_reducible refine Sx.call_at (f := 107) (fun W hW => v1 W) ?_) | (with_reducible refine Sx.call_at (f := 85) (fun W hW => at1 W) ?_) | (with_reducible refine Sx.call_at (f := 84) (fun W hW => ad W) ?_) | (with_reducible refine Sx.call_at (f := 84) (fun W hW => ad0 W) ?_) | (with_reducible refine Sx.call_at (f := 86) (fun W hW => n1 W) ?_) | (with_reducible refine Sx.call_at (f := 87) (fun W hW => n2 W) ?_))
set_option maxRecDepth 100000 in
set_option maxHeartbeats 4000000 in
theorem rx_value {b s : Value} {t : Bool} {z p q dt : Int} (h : RW b t z) (hq : CQ s p q) (hd : U64 dt) (W : World) : Gives Try.prog 35 [b, s, .int .u64 dt] W (· = .int .i64 (vl (vz z + atq p q dt))) := by
  have at1 := fun W => rx_rat hq hd W
  have f := hq.fq
  have ba := bd_at f hd
  have fa := ba.fits
  have v1 := fun W => ry_valid h W
  obtain ⟨s0, s1, s2, s3, s4, s5, s6, s7, s8, s9, rfl⟩ := hq.ten
  clear hq f
  have fs := vz_fits (z := z) (vz_small z) ba
  have n1 := fun W => rgf_int64 fs.is W
  have n2 := fun W => rx_sign fs W
  have ad : ∀ W, Gives Try.prog 22 [WX (vz z), WX (atq p q dt)] W (· = .tuple #[WX (vz z + atq p q dt), .bool true]) := fun W => rx_add (bd_fits' (vz_small z)) fa fs W
  have ad0 : ∀ W, Gives Try.prog 22 [NZ, WX (atq p q dt)] W (· = .tuple #[WX (0 + atq p q dt), .bool true]) := fun W => by
    have h1 : Fits (0 + atq p q dt) := by rw [Int.zero_add]; exact fa
    exact gives_eq (rg_add nz_is fa.is W) (tup2 (by rw [cl_fit h1]; rfl) (by rw [fb_fit h1]))
  have e0 : vz 0 = 0 := by decide
  have eN : ab z < 340282366920938463463374607431768211456 → vz z = z := fun e => by unfold vz; rw [if_pos e]
  have eB : ¬ ab z < 340282366920938463463374607431768211456 → vz z = 0 := fun e => by unfold vz; rw [if_neg e]
  refine gives_known en_r20_Value ?_
  have fin : (i6b (vz z + atq p q dt) = true ∧ i6v (vz z + atq p q dt) = vl (vz z + atq p q dt)) ∨ (i6b (vz z + atq p q dt) = false ∧ i6v (vz z + atq p q dt) = 0 ∧ cm (vz z + atq p q dt) 0 < 0 ∧ sg (vz z + atq p q dt) = true ∧ vl (vz z + atq p q dt) = -9223372036854775808) ∨ (i6b (vz z + atq p q dt) = false ∧ i6v (vz z + atq p q dt) = 0 ∧ ¬ cm (vz z + atq p q dt) 0 < 0 ∧ sg (vz z + atq p q dt) = false ∧ vl (vz z + atq p q dt) = 9223372036854775807) := by
    generalize vz z + atq p q dt = S
    unfold i6v i6b vl sg
    rw [km_lt]
    by_cases g1 : S < -9223372036854775808
    · rw [decide_eq_false (show ¬ (-9223372036854775808 ≤ S ∧ S ≤ 9223372036854775807) by omega), if_pos g1, decide_eq_true (show S < 0 by omega)]
      exact .inr (.inl ⟨rfl, rfl, by omega, rfl, rfl⟩)
    · by_cases g2 : 9223372036854775807 < S
      · rw [decide_eq_false (show ¬ (-9223372036854775808 ≤ S ∧ S ≤ 9223372036854775807) by omega), if_neg g1, if_pos g2, decide_eq_false (show ¬ S < 0 by omega)]
        exact .inr (.inr ⟨rfl, rfl, by omega, rfl, rfl⟩)
      · rw [decide_eq_true (show -9223372036854775808 ≤ S ∧ S ≤ 9223372036854775807 by omega), if_neg g1, if_neg g2]
        exact .inl ⟨rfl, rfl⟩
  rcases h with ⟨rfl, rfl, h⟩ | ⟨rfl, rfl, rfl⟩
  · have hs := small128 h
    by_cases hz : ab z < 340282366920938463463374607431768211456
    · obtain ⟨k3, k2⟩ := hs.1 hz
      have d3 : (lb3 (ab z) == 0) = true := beq_iff_eq.2 k3
      have d2 : (lb2 (ab z) == 0) = true := beq_iff_eq.2 k2
      simp only [eN hz] at ad n1 n2 fin ⊢
      clear hs hz eN eB ad0 e0 fs ba
      generalize hS : z + atq p q dt = S at *
      generalize atq p q dt = A at *
      rcases fin with ⟨g1, g2⟩ | ⟨g1, g2, g3, g4, g5⟩ | ⟨g1, g2, g3, g4, g5⟩
      · refine known_of (enter Try.func35 r20_Value.ok (args := [_, _, _]) (by simp) ?_)
        repeat' (first | simp (disch := omega) only [sxE, r20_Value.E, Nat.reduceAdd, Nat.reduceEqDiff, Nat.reduceMul, Nat.reduceSub, Int.reduceAdd, Int.reduceSub, Int.reduceMul, Int.reduceNeg, Int.reduceLT, Int.reduceLE, Int.reduceEq, Int.reduceToNat, ↓reduceIte, Int.reducePow, Nat.reduceLeDiff, Nat.reduceLT, ne_eq, eq_self, List.length_cons, List.length_nil, qxE, d3, d2, g1, g2, beq_self_eq_true] | (with_reducible refine Sx.call_at (f := 88) (fun W hW => v1 W) ?_) | (with_reducible refine Sx.call_at (f := 40) (fun W hW => at1 W) ?_) | (with_reducible refine Sx.call_at (f := 22) (fun W hW => ad W) ?_) | (with_reducible refine Sx.call_at (f := 25) (fun W hW => n1 W) ?_) | (with_reducible refine Sx.call_at (f := 65) (fun W hW => n2 W) ?_))
      · refine known_of (enter Try.func35 r20_Value.ok (args := [_, _, _]) (by simp) ?_)
        repeat' (first | simp (disch := omega) only [sxE, r20_Value.E, Nat.reduceAdd, Nat.reduceEqDiff, Nat.reduceMul, Nat.reduceSub, Int.reduceAdd, Int.reduceSub, Int.reduceMul, Int.reduceNeg, Int.reduceLT, Int.reduceLE, Int.reduceEq, Int.reduceToNat, ↓reduceIte, Int.reducePow, Nat.reduceLeDiff, Nat.reduceLT, ne_eq, eq_self, List.length_cons, List.length_nil, qxE, d3, d2, g1, g2, g5, beq_self_eq_true] | (with_reducible refine Sx.call_at (f := 88) (fun W hW => v1 W) ?_) | (with_reducible refine Sx.call_at (f := 40) (fun W hW => at1 W) ?_) | (with_reducible refine Sx.call_at (f := 22) (fun W hW => ad W) ?_) | (with_reducible refine Sx.call_at (f := 25) (fun W hW => n1 W) ?_) | (with_reducible refine Sx.call_at (f := 65) (fun W hW => n2 W) ?_))
        repeat' (first | simp (disch := omega) only [sxE, r20_Value.E, Nat.reduceAdd, Nat.reduceEqDiff, Nat.reduceMul, Nat.reduceSub, Int.reduceAdd, Int.reduceSub, Int.reduceMul, Int.reduceNeg, Int.reduceLT, Int.reduceLE, Int.reduceEq, Int.reduceToNat, ↓reduceIte, Int.reducePow, Nat.reduceLeDiff, Nat.reduceLT, ne_eq, eq_self, List.length_cons, List.length_nil, qxE, g4, g5])
      · refine known_of (enter Try.func35 r20_Value.ok (args := [_, _, _]) (by simp) ?_)
        repeat' (first | simp (disch := omega) only [sxE, r20_Value.E, Nat.reduceAdd, Nat.reduceEqDiff, Nat.reduceMul, Nat.reduceSub, Int.reduceAdd, Int.reduceSub, Int.reduceMul, Int.reduceNeg, Int.reduceLT, Int.reduceLE, Int.reduceEq, Int.reduceToNat, ↓reduceIte, Int.reducePow, Nat.reduceLeDiff, Nat.reduceLT, ne_eq, eq_self, List.length_cons, List.length_nil, qxE, d3, d2, g1, g2, g5, beq_self_eq_true] | (with_reducible refine Sx.call_at (f := 88) (fun W hW => v1 W) ?_) | (with_reducible refine Sx.call_at (f := 40) (fun W hW => at1 W) ?_) | (with_reducible refine Sx.call_at (f := 22) (fun W hW => ad W) ?_) | (with_reducible refine Sx.call_at (f := 25) (fun W hW => n1 W) ?_) | (with_reducible refine Sx.call_at (f := 65) (fun W hW => n2 W) ?_))
        repeat' (first | simp (disch := omega) only [sxE, r20_Value.E, Nat.reduceAdd, Nat.reduceEqDiff, Nat.reduceMul, Nat.reduceSub, Int.reduceAdd, Int.reduceSub, Int.reduceMul, Int.reduceNeg, Int.reduceLT, Int.reduceLE, Int.reduceEq, Int.reduceToNat, ↓reduceIte, Int.reducePow, Nat.reduceLeDiff, Nat.reduceLT, ne_eq, eq_self, List.length_cons, List.length_nil, qxE, g4, g5])
    · simp only [eB hz] at ad n1 n2 fin ⊢
      have hn : lb3 (ab z) ≠ 0 ∨ lb2 (ab z) ≠ 0 := by
        rcases Decidable.em (lb3 (ab z) = 0) with e | e
        · exact .inr fun e' => hz (hs.2 ⟨e, e'⟩)
        · exact .inl e
      clear hs hz eN eB ad0 e0 fs ba
      generalize hS : 0 + atq p q dt = S at *
      generalize atq p q dt = A at *
      rcases fin with ⟨g1, g2⟩ | ⟨g1, g2, g3, g4, g5⟩ | ⟨g1, g2, g3, g4, g5⟩
      · by_cases k3 : lb3 (ab z) = 0
        · have d3 : (lb3 (ab z) == 0) = true := beq_iff_eq.2 k3
          by_cases k2 : lb2 (ab z) = 0
          · exact absurd hn (by simp [k3, k2])
          · have d2 : (lb2 (ab z) == 0) = false := beq_eq_false_iff_ne.2 k2
            refine known_of (enter Try.func35 r20_Value.ok (args := [_, _, _]) (by simp) ?_)
            repeat' (first | simp (disch := omega) only [sxE, r20_Value.E, Nat.reduceAdd, Nat.reduceEqDiff, Nat.reduceMul, Nat.reduceSub, Int.reduceAdd, Int.reduceSub, Int.reduceMul, Int.reduceNeg, Int.reduceLT, Int.reduceLE, Int.reduceEq, Int.reduceToNat, ↓reduceIte, Int.reducePow, Nat.reduceLeDiff, Nat.reduceLT, ne_eq, eq_self, List.length_cons, List.length_nil, qxE, d3, d2, g1, g2, beq_self_eq_true] | (with_reducible refine Sx.call_at (f := 88) (fun W hW => v1 W) ?_) | (with_reducible refine Sx.call_at (f := 40) (fun W hW => at1 W) ?_) | (with_reducible refine Sx.call_at (f := 22) (fun W hW => ad W) ?_) | (with_reducible refine Sx.call_at (f := 25) (fun W hW => n1 W) ?_) | (with_reducible refine Sx.call_at (f := 65) (fun W hW => n2 W) ?_))
        · have d3 : (lb3 (ab z) == 0) = false := beq_eq_false_iff_ne.2 k3
          by_cases k2 : lb2 (ab z) = 0
          · have d2 : (lb2 (ab z) == 0) = true := beq_iff_eq.2 k2
            refine known_of (enter Try.func35 r20_Value.ok (args := [_, _, _]) (by simp) ?_)
            repeat' (first | simp (disch := omega) only [sxE, r20_Value.E, Nat.reduceAdd, Nat.reduceEqDiff, Nat.reduceMul, Nat.reduceSub, Int.reduceAdd, Int.reduceSub, Int.reduceMul, Int.reduceNeg, Int.reduceLT, Int.reduceLE, Int.reduceEq, Int.reduceToNat, ↓reduceIte, Int.reducePow, Nat.reduceLeDiff, Nat.reduceLT, ne_eq, eq_self, List.length_cons, List.length_nil, qxE, d3, d2, g1, g2, beq_self_eq_true] | (with_reducible refine Sx.call_at (f := 88) (fun W hW => v1 W) ?_) | (with_reducible refine Sx.call_at (f := 40) (fun W hW => at1 W) ?_) | (with_reducible refine Sx.call_at (f := 22) (fun W hW => ad W) ?_) | (with_reducible refine Sx.call_at (f := 25) (fun W hW => n1 W) ?_) | (with_reducible refine Sx.call_at (f := 65) (fun W hW => n2 W) ?_))
          · have d2 : (lb2 (ab z) == 0) = false := beq_eq_false_iff_ne.2 k2
            refine known_of (enter Try.func35 r20_Value.ok (args := [_, _, _]) (by simp) ?_)
            repeat' (first | simp (disch := omega) only [sxE, r20_Value.E, Nat.reduceAdd, Nat.reduceEqDiff, Nat.reduceMul, Nat.reduceSub, Int.reduceAdd, Int.reduceSub, Int.reduceMul, Int.reduceNeg, Int.reduceLT, Int.reduceLE, Int.reduceEq, Int.reduceToNat, ↓reduceIte, Int.reducePow, Nat.reduceLeDiff, Nat.reduceLT, ne_eq, eq_self, List.length_cons, List.length_nil, qxE, d3, d2, g1, g2, beq_self_eq_true] | (with_reducible refine Sx.call_at (f := 88) (fun W hW => v1 W) ?_) | (with_reducible refine Sx.call_at (f := 40) (fun W hW => at1 W) ?_) | (with_reducible refine Sx.call_at (f := 22) (fun W hW => ad W) ?_) | (with_reducible refine Sx.call_at (f := 25) (fun W hW => n1 W) ?_) | (with_reducible refine Sx.call_at (f := 65) (fun W hW => n2 W) ?_))
      · by_cases k3 : lb3 (ab z) = 0
        · have d3 : (lb3 (ab z) == 0) = true := beq_iff_eq.2 k3
          by_cases k2 : lb2 (ab z) = 0
          · exact absurd hn (by simp [k3, k2])
          · have d2 : (lb2 (ab z) == 0) = false := beq_eq_false_iff_ne.2 k2
            refine known_of (enter Try.func35 r20_Value.ok (args := [_, _, _]) (by simp) ?_)
            repeat' (first | simp (disch := omega) only [sxE, r20_Value.E, Nat.reduceAdd, Nat.reduceEqDiff, Nat.reduceMul, Nat.reduceSub, Int.reduceAdd, Int.reduceSub, Int.reduceMul, Int.reduceNeg, Int.reduceLT, Int.reduceLE, Int.reduceEq, Int.reduceToNat, ↓reduceIte, Int.reducePow, Nat.reduceLeDiff, Nat.reduceLT, ne_eq, eq_self, List.length_cons, List.length_nil, qxE, d3, d2, g1, g2, g5, beq_self_eq_true] | (with_reducible refine Sx.call_at (f := 88) (fun W hW => v1 W) ?_) | (with_reducible refine Sx.call_at (f := 40) (fun W hW => at1 W) ?_) | (with_reducible refine Sx.call_at (f := 22) (fun W hW => ad W) ?_) | (with_reducible refine Sx.call_at (f := 25) (fun W hW => n1 W) ?_) | (with_reducible refine Sx.call_at (f := 65) (fun W hW => n2 W) ?_))
            repeat' (first | simp (disch := omega) only [sxE, r20_Value.E, Nat.reduceAdd, Nat.reduceEqDiff, Nat.reduceMul, Nat.reduceSub, Int.reduceAdd, Int.reduceSub, Int.reduceMul, Int.reduceNeg, Int.reduceLT, Int.reduceLE, Int.reduceEq, Int.reduceToNat, ↓reduceIte, Int.reducePow, Nat.reduceLeDiff, Nat.reduceLT, ne_eq, eq_self, List.length_cons, List.length_nil, qxE, g4, g5])
        · have d3 : (lb3 (ab z) == 0) = false := beq_eq_false_iff_ne.2 k3
          by_cases k2 : lb2 (ab z) = 0
          · have d2 : (lb2 (ab z) == 0) = true := beq_iff_eq.2 k2
            refine known_of (enter Try.func35 r20_Value.ok (args := [_, _, _]) (by simp) ?_)
            repeat' (first | simp (disch := omega) only [sxE, r20_Value.E, Nat.reduceAdd, Nat.reduceEqDiff, Nat.reduceMul, Nat.reduceSub, Int.reduceAdd, Int.reduceSub, Int.reduceMul, Int.reduceNeg, Int.reduceLT, Int.reduceLE, Int.reduceEq, Int.reduceToNat, ↓reduceIte, Int.reducePow, Nat.reduceLeDiff, Nat.reduceLT, ne_eq, eq_self, List.length_cons, List.length_nil, qxE, d3, d2, g1, g2, g5, beq_self_eq_true] | (with_reducible refine Sx.call_at (f := 88) (fun W hW => v1 W) ?_) | (with_reducible refine Sx.call_at (f := 40) (fun W hW => at1 W) ?_) | (with_reducible refine Sx.call_at (f := 22) (fun W hW => ad W) ?_) | (with_reducible refine Sx.call_at (f := 25) (fun W hW => n1 W) ?_) | (with_reducible refine Sx.call_at (f := 65) (fun W hW => n2 W) ?_))
            repeat' (first | simp (disch := omega) only [sxE, r20_Value.E, Nat.reduceAdd, Nat.reduceEqDiff, Nat.reduceMul, Nat.reduceSub, Int.reduceAdd, Int.reduceSub, Int.reduceMul, Int.reduceNeg, Int.reduceLT, Int.reduceLE, Int.reduceEq, Int.reduceToNat, ↓reduceIte, Int.reducePow, Nat.reduceLeDiff, Nat.reduceLT, ne_eq, eq_self, List.length_cons, List.length_nil, qxE, g4, g5])
          · have d2 : (lb2 (ab z) == 0) = false := beq_eq_false_iff_ne.2 k2
            refine known_of (enter Try.func35 r20_Value.ok (args := [_, _, _]) (by simp) ?_)
            repeat' (first | simp (disch := omega) only [sxE, r20_Value.E, Nat.reduceAdd, Nat.reduceEqDiff, Nat.reduceMul, Nat.reduceSub, Int.reduceAdd, Int.reduceSub, Int.reduceMul, Int.reduceNeg, Int.reduceLT, Int.reduceLE, Int.reduceEq, Int.reduceToNat, ↓reduceIte, Int.reducePow, Nat.reduceLeDiff, Nat.reduceLT, ne_eq, eq_self, List.length_cons, List.length_nil, qxE, d3, d2, g1, g2, g5, beq_self_eq_true] | (with_reducible refine Sx.call_at (f := 88) (fun W hW => v1 W) ?_) | (with_reducible refine Sx.call_at (f := 40) (fun W hW => at1 W) ?_) | (with_reducible refine Sx.call_at (f := 22) (fun W hW => ad W) ?_) | (with_reducible refine Sx.call_at (f := 25) (fun W hW => n1 W) ?_) | (with_reducible refine Sx.call_at (f := 65) (fun W hW => n2 W) ?_))
            repeat' (first | simp (disch := omega) only [sxE, r20_Value.E, Nat.reduceAdd, Nat.reduceEqDiff, Nat.reduceMul, Nat.reduceSub, Int.reduceAdd, Int.reduceSub, Int.reduceMul, Int.reduceNeg, Int.reduceLT, Int.reduceLE, Int.reduceEq, Int.reduceToNat, ↓reduceIte, Int.reducePow, Nat.reduceLeDiff, Nat.reduceLT, ne_eq, eq_self, List.length_cons, List.length_nil, qxE, g4, g5])
      · by_cases k3 : lb3 (ab z) = 0
        · have d3 : (lb3 (ab z) == 0) = true := beq_iff_eq.2 k3
          by_cases k2 : lb2 (ab z) = 0
          · exact absurd hn (by simp [k3, k2])
          · have d2 : (lb2 (ab z) == 0) = false := beq_eq_false_iff_ne.2 k2
            refine known_of (enter Try.func35 r20_Value.ok (args := [_, _, _]) (by simp) ?_)
            repeat' (first | simp (disch := omega) only [sxE, r20_Value.E, Nat.reduceAdd, Nat.reduceEqDiff, Nat.reduceMul, Nat.reduceSub, Int.reduceAdd, Int.reduceSub, Int.reduceMul, Int.reduceNeg, Int.reduceLT, Int.reduceLE, Int.reduceEq, Int.reduceToNat, ↓reduceIte, Int.reducePow, Nat.reduceLeDiff, Nat.reduceLT, ne_eq, eq_self, List.length_cons, List.length_nil, qxE, d3, d2, g1, g2, g5, beq_self_eq_true] | (with_reducible refine Sx.call_at (f := 88) (fun W hW => v1 W) ?_) | (with_reducible refine Sx.call_at (f := 40) (fun W hW => at1 W) ?_) | (with_reducible refine Sx.call_at (f := 22) (fun W hW => ad W) ?_) | (with_reducible refine Sx.call_at (f := 25) (fun W hW => n1 W) ?_) | (with_reducible refine Sx.call_at (f := 65) (fun W hW => n2 W) ?_))
            repeat' (first | simp (disch := omega) only [sxE, r20_Value.E, Nat.reduceAdd, Nat.reduceEqDiff, Nat.reduceMul, Nat.reduceSub, Int.reduceAdd, Int.reduceSub, Int.reduceMul, Int.reduceNeg, Int.reduceLT, Int.reduceLE, Int.reduceEq, Int.reduceToNat, ↓reduceIte, Int.reducePow, Nat.reduceLeDiff, Nat.reduceLT, ne_eq, eq_self, List.length_cons, List.length_nil, qxE, g4, g5])
        · have d3 : (lb3 (ab z) == 0) = false := beq_eq_false_iff_ne.2 k3
          by_cases k2 : lb2 (ab z) = 0
          · have d2 : (lb2 (ab z) == 0) = true := beq_iff_eq.2 k2
            refine known_of (enter Try.func35 r20_Value.ok (args := [_, _, _]) (by simp) ?_)
            repeat' (first | simp (disch := omega) only [sxE, r20_Value.E, Nat.reduceAdd, Nat.reduceEqDiff, Nat.reduceMul, Nat.reduceSub, Int.reduceAdd, Int.reduceSub, Int.reduceMul, Int.reduceNeg, Int.reduceLT, Int.reduceLE, Int.reduceEq, Int.reduceToNat, ↓reduceIte, Int.reducePow, Nat.reduceLeDiff, Nat.reduceLT, ne_eq, eq_self, List.length_cons, List.length_nil, qxE, d3, d2, g1, g2, g5, beq_self_eq_true] | (with_reducible refine Sx.call_at (f := 88) (fun W hW => v1 W) ?_) | (with_reducible refine Sx.call_at (f := 40) (fun W hW => at1 W) ?_) | (with_reducible refine Sx.call_at (f := 22) (fun W hW => ad W) ?_) | (with_reducible refine Sx.call_at (f := 25) (fun W hW => n1 W) ?_) | (with_reducible refine Sx.call_at (f := 65) (fun W hW => n2 W) ?_))
            repeat' (first | simp (disch := omega) only [sxE, r20_Value.E, Nat.reduceAdd, Nat.reduceEqDiff, Nat.reduceMul, Nat.reduceSub, Int.reduceAdd, Int.reduceSub, Int.reduceMul, Int.reduceNeg, Int.reduceLT, Int.reduceLE, Int.reduceEq, Int.reduceToNat, ↓reduceIte, Int.reducePow, Nat.reduceLeDiff, Nat.reduceLT, ne_eq, eq_self, List.length_cons, List.length_nil, qxE, g4, g5])
          · have d2 : (lb2 (ab z) == 0) = false := beq_eq_false_iff_ne.2 k2
            refine known_of (enter Try.func35 r20_Value.ok (args := [_, _, _]) (by simp) ?_)
            repeat' (first | simp (disch := omega) only [sxE, r20_Value.E, Nat.reduceAdd, Nat.reduceEqDiff, Nat.reduceMul, Nat.reduceSub, Int.reduceAdd, Int.reduceSub, Int.reduceMul, Int.reduceNeg, Int.reduceLT, Int.reduceLE, Int.reduceEq, Int.reduceToNat, ↓reduceIte, Int.reducePow, Nat.reduceLeDiff, Nat.reduceLT, ne_eq, eq_self, List.length_cons, List.length_nil, qxE, d3, d2, g1, g2, g5, beq_self_eq_true] | (with_reducible refine Sx.call_at (f := 88) (fun W hW => v1 W) ?_) | (with_reducible refine Sx.call_at (f := 40) (fun W hW => at1 W) ?_) | (with_reducible refine Sx.call_at (f := 22) (fun W hW => ad W) ?_) | (with_reducible refine Sx.call_at (f := 25) (fun W hW => n1 W) ?_) | (with_reducible refine Sx.call_at (f := 65) (fun W hW => n2 W) ?_))
            repeat' (first | simp (disch := omega) only [sxE, r20_Value.E, Nat.reduceAdd, Nat.reduceEqDiff, Nat.reduceMul, Nat.reduceSub, Int.reduceAdd, Int.reduceSub, Int.reduceMul, Int.reduceNeg, Int.reduceLT, Int.reduceLE, Int.reduceEq, Int.reduceToNat, ↓reduceIte, Int.reducePow, Nat.reduceLeDiff, Nat.reduceLT, ne_eq, eq_self, List.length_cons, List.length_nil, qxE, g4, g5])
  · simp only [e0] at ad n1 n2 fin ⊢
    clear eN eB e0 fs ba
    generalize hS : 0 + atq p q dt = S at *
    generalize atq p q dt = A at *
    rcases fin with ⟨g1, g2⟩ | ⟨g1, g2, g3, g4, g5⟩ | ⟨g1, g2, g3, g4, g5⟩
    · refine known_of (enter Try.func35 r20_Value.ok (args := [_, _, _]) (by simp) ?_)
      repeat' (first | simp (disch := omega) only [sxE, r20_Value.E, Nat.reduceAdd, Nat.reduceEqDiff, Nat.reduceMul, Nat.reduceSub, Int.reduceAdd, Int.reduceSub, Int.reduceMul, Int.reduceNeg, Int.reduceLT, Int.reduceLE, Int.reduceEq, Int.reduceToNat, ↓reduceIte, Int.reducePow, Nat.reduceLeDiff, Nat.reduceLT, ne_eq, eq_self, List.length_cons, List.length_nil, qxE, g1, g2, beq_self_eq_true] | (with_reducible refine Sx.call_at (f := 88) (fun W hW => v1 W) ?_) | (with_reducible refine Sx.call_at (f := 40) (fun W hW => at1 W) ?_) | (with_reducible refine Sx.call_at (f := 22) (fun W hW => ad W) ?_) | (with_reducible refine Sx.call_at (f := 22) (fun W hW => ad0 W) ?_) | (with_reducible refine Sx.call_at (f := 25) (fun W hW => n1 W) ?_) | (with_reducible refine Sx.call_at (f := 65) (fun W hW => n2 W) ?_))
    · refine known_of (enter Try.func35 r20_Value.ok (args := [_, _, _]) (by simp) ?_)
      repeat' (first | simp (disch := omega) only [sxE, r20_Value.E, Nat.reduceAdd, Nat.reduceEqDiff, Nat.reduceMul, Nat.reduceSub, Int.reduceAdd, Int.reduceSub, Int.reduceMul, Int.reduceNeg, Int.reduceLT, Int.reduceLE, Int.reduceEq, Int.reduceToNat, ↓reduceIte, Int.reducePow, Nat.reduceLeDiff, Nat.reduceLT, ne_eq, eq_self, List.length_cons, List.length_nil, qxE, g1, g2, g5, beq_self_eq_true] | (with_reducible refine Sx.call_at (f := 88) (fun W hW => v1 W) ?_) | (with_reducible refine Sx.call_at (f := 40) (fun W hW => at1 W) ?_) | (with_reducible refine Sx.call_at (f := 22) (fun W hW => ad W) ?_) | (with_reducible refine Sx.call_at (f := 22) (fun W hW => ad0 W) ?_) | (with_reducible refine Sx.call_at (f := 25) (fun W hW => n1 W) ?_) | (with_reducible refine Sx.call_at (f := 65) (fun W hW => n2 W) ?_))
      repeat' (first | simp (disch := omega) only [sxE, r20_Value.E, Nat.reduceAdd, Nat.reduceEqDiff, Nat.reduceMul, Nat.reduceSub, Int.reduceAdd, Int.reduceSub, Int.reduceMul, Int.reduceNeg, Int.reduceLT, Int.reduceLE, Int.reduceEq, Int.reduceToNat, ↓reduceIte, Int.reducePow, Nat.reduceLeDiff, Nat.reduceLT, ne_eq, eq_self, List.length_cons, List.length_nil, qxE, g4, g5])
    · refine known_of (enter Try.func35 r20_Value.ok (args := [_, _, _]) (by simp) ?_)
      repeat' (first | simp (disch := omega) only [sxE, r20_Value.E, Nat.reduceAdd, Nat.reduceEqDiff, Nat.reduceMul, Nat.reduceSub, Int.reduceAdd, Int.reduceSub, Int.reduceMul, Int.reduceNeg, Int.reduceLT, Int.reduceLE, Int.reduceEq, Int.reduceToNat, ↓reduceIte, Int.reducePow, Nat.reduceLeDiff, Nat.reduceLT, ne_eq, eq_self, List.length_cons, List.length_nil, qxE, g1, g2, g5, beq_self_eq_true] | (with_reducible refine Sx.call_at (f := 88) (fun W hW => v1 W) ?_) | (with_reducible refine Sx.call_at (f := 40) (fun W hW => at1 W) ?_) | (with_reducible refine Sx.call_at (f := 22) (fun W hW => ad W) ?_) | (with_reducible refine Sx.call_at (f := 22) (fun W hW => ad0 W) ?_) | (with_reducible refine Sx.call_at (f := 25) (fun W hW => n1 W) ?_) | (with_reducible refine Sx.call_at (f := 65) (fun W hW => n2 W) ?_))
      repeat' (first | simp (disch := omega) only [sxE, r20_Value.E, Nat.reduceAdd, Nat.reduceEqDiff, Nat.reduceMul, Nat.reduceSub, Int.reduceAdd, Int.reduceSub, Int.reduceMul, Int.reduceNeg, Int.reduceLT, Int.reduceLE, Int.reduceEq, Int.reduceToNat, ↓reduceIte, Int.reducePow, Nat.reduceLeDiff, Nat.reduceLT, ne_eq, eq_self, List.length_cons, List.length_nil, qxE, g4, g5])
end Go.Proofs.Ytncmmbacoknefaa

/- L20: known of the statements about rebuild. -/
namespace Go.Proofs.Ytncmmbacoknefaa
open Go Go.RowKit Sx
set_option linter.unusedVariables false
set_option linter.unusedSimpArgs false
theorem fq_of20 {p q : Int} (h : rok true p q = true) : Fq p q := (rok_iff.1 h).2
set_option maxRecDepth 100000 in
set_option maxHeartbeats 1000000 in
theorem g_known20 (W : World) : Gives Try.prog 33 [] W (· = .bool true) := by
  have i0 : I64 0 := ⟨by decide, by decide⟩
  have i1 : I64 1 := ⟨by decide, by decide⟩
  have i2 : I64 2 := ⟨by decide, by decide⟩
  have im : I64 9223372036854775807 := ⟨by decide, by decide⟩
  have o0 := fun W => rx_of i0 W
  have o1 := fun W => rx_of i1 W
  have o2 := fun W => rx_of i2 W
  have om := fun W => rx_of im W
  have f0 := (bd_i64 i0).fits
  have fm := (bd_i64 im).fits
  have mk := fun W => rx_make (z := 1) (y := 2) (bd_i64 i1).fits (bd_i64 i2).fits W
  rw [mkV_yes (by decide +kernel), show mn 1 2 = 1 by decide +kernel, show mD 1 2 = 2 by decide +kernel] at mk
  have fh : Fq 1 2 := fq_of20 (by decide +kernel)
  have f1 : Fq 1 1 := fq_of20 (by decide +kernel)
  have r1 := fun W => rx_rof i1 W
  have v1 := fun W => gx_value f0.rw fh.cq (dt := 3) ⟨by decide, by decide⟩ W
  have v2 := fun W => gx_value fm.rw f1.cq (dt := 5) ⟨by decide, by decide⟩ W
  rw [show vl (vz 0 + atq 1 2 3) = 2 by decide +kernel] at v1
  rw [show vl (vz 9223372036854775807 + atq 1 1 5) = 9223372036854775807 by decide +kernel] at v2
  refine gives_known en_w20_known ?_
  refine known_of (enter Try.func33 w20_known.ok (args := []) (by simp) ?_)
  repeat' (first | simp (disch := omega) only [sxE, w20_known.E, Nat.reduceAdd, Nat.reduceEqDiff, Nat.reduceMul, Nat.reduceSub, Int.reduceAdd, Int.reduceSub, Int.reduceMul, Int.reduceNeg, Int.reduceLT, Int.reduceLE, Int.reduceEq, Int.reduceToNat, ↓reduceIte, Int.reducePow, Nat.reduceLeDiff, Nat.reduceLT, ne_eq, eq_self, List.length_cons, List.length_nil, qxE, beq_self_eq_true] | (with_reducible refine Sx.call_at (f := 20) (fun W hW => o0 W) ?_) | (with_reducible refine Sx.call_at (f := 20) (fun W hW => o1 W) ?_) | (with_reducible refine Sx.call_at (f := 20) (fun W hW => o2 W) ?_) | (with_reducible refine Sx.call_at (f := 20) (fun W hW => om W) ?_) | (with_reducible refine Sx.call_at (f := 81) (fun W hW => mk W) ?_) | (with_reducible refine Sx.call_at (f := 82) (fun W hW => r1 W) ?_) | (with_reducible refine Sx.call_at (f := 34) (fun W hW => v1 W) ?_) | (with_reducible refine Sx.call_at (f := 34) (fun W hW => v2 W) ?_))
  refine genA_c (L := []) (cs := [.int .i64 2, .int .i64 9]) (T := 34) (fun b => .slice (some ⟨b, 0, none⟩) 1 1) (kX_nil _) (fun W => by kernel_rfl) fun b hb => ?_
  clear hb
  repeat' (first | simp (disch := omega) only [sxE, w20_known.E, Nat.reduceAdd, Nat.reduceEqDiff, Nat.reduceMul, Nat.reduceSub, Int.reduceAdd, Int.reduceSub, Int.reduceMul, Int.reduceNeg, Int.reduceLT, Int.reduceLE, Int.reduceEq, Int.reduceToNat, ↓reduceIte, Int.reducePow, Nat.reduceLeDiff, Nat.reduceLT, ne_eq, eq_self, List.length_cons, List.length_nil, qxE])
  refine asks_kn (ι := Nat × Nat) (L := [.g (cK b [.int .i64 2, .int .i64 9])]) (gs := []) (fun x => .slice (some ⟨x.1, 0, none⟩) 2 x.2) (fun _ => [.g (cK b [.int .i64 2, .int .i64 9])]) en_rebuild_Constants rfl (fun x hx => by cases hx) (fun W hok x hx => by cases hx) (fun W' hW hok => ?con) fun x => ?_
  case con =>
    have k1 : (cK b [.int .i64 2, .int .i64 9]).ok W.heap.size W' := hok _ (List.mem_singleton.2 rfl)
    exact (const_two (w := W') (b := b) k1.2).mono fun e w' ⟨x, h1, h2⟩ => ⟨x, h1, moves_below h2, fun k hk => .inl ⟨hk, fun _ _ h => by cases h⟩⟩
  repeat' (first | simp (disch := omega) only [sxE, w20_known.E, Nat.reduceAdd, Nat.reduceEqDiff, Nat.reduceMul, Nat.reduceSub, Int.reduceAdd, Int.reduceSub, Int.reduceMul, Int.reduceNeg, Int.reduceLT, Int.reduceLE, Int.reduceEq, Int.reduceToNat, ↓reduceIte, Int.reducePow, Nat.reduceLeDiff, Nat.reduceLT, ne_eq, eq_self, List.length_cons, List.length_nil, qxE, beq_self_eq_true])
end Go.Proofs.Ytncmmbacoknefaa

/- Open: Opening arguments that are structs: samples and Wides. -/
namespace Go.Proofs.Ytncmmbacoknefaa
open Go.ChangeShapes Go.WideShapes Go.ChangeAt Go.RowKit
set_option linter.unusedVariables false
set_option linter.unusedSimpArgs false
section
variable {H : Type} {enc : TypeId × Value → H} {P : Program}
theorem list5 {l : List Value} (h : l.length = 5) : ∃ x y z u v, l = [x, y, z, u, v] := by
  match l, h with
  | [x, y, z, u, v], _ => exact ⟨x, y, z, u, v, rfl⟩
theorem open_wid {t e : TypeId} {f0 f1 : Field} {v : Value} {d : DataW H} {ps : List MemPlace} {W : World} {base : Nat} (ht : P.underlying t = some (.struct #[f0, f1])) (k0 : P.underlying f0.type = some .bool) (k1 : P.underlying f1.type = some (.array 4 e)) (ke : P.underlying e = some (.int .u64)) (o0 : f0.offset = 0) (o1 : f1.offset = 1)
    (c0 : P.cellsOf f0.type = 1) (c1 : P.cellsOf f1.type = 4) (ce : P.cellsOf e = 1) (ct : P.cellsOf t = 5) (hv : Value.okWide P W .any base t v) (h : DataW.Trod enc P W 0 (fun _ => true) true t v d ps) : ∃ n a b c d', v = WV n a b c d' ∧ U64 a ∧ U64 b ∧ U64 c ∧ U64 d' := by
  obtain ⟨cs, rfl, hsz⟩ := okWide_struct ht hv
  obtain ⟨fuel, hf⟩ := h
  obtain ⟨y0, y1, n, _, hlen, e0, e1⟩ := trod_struct2 ht hf
  have hl : cs.toList.length = 5 := by rw [Array.length_toList, hsz, ct]
  obtain ⟨x, y, z, u, v, hxy⟩ := list5 hl
  have hcs : cs = #[x, y, z, u, v] := by rw [← Array.toArray_toList (xs := cs), hxy]
  subst hcs
  rw [o0, c0] at e0
  rw [o1, c1] at e1
  obtain ⟨nb, en, -⟩ := DataW.trod_bool k0 e0
  have e1' : DataW.trod enc P W 0 (fun _ => true) true n f1.type [y, z, u, v] = some y1 := by simpa [Value.cells] using e1
  obtain ⟨z0, z1, z2, z3, m, _, g0, g1, g2, g3⟩ := trod_array4 k1 ce e1'
  obtain ⟨a0, r0, -, w0⟩ := DataW.trod_int ke g0
  obtain ⟨a1, r1, -, w1⟩ := DataW.trod_int ke g1
  obtain ⟨a2, r2, -, w2⟩ := DataW.trod_int ke g2
  obtain ⟨a3, r3, -, w3⟩ := DataW.trod_int ke g3
  simp [Value.cells] at en r0 r1 r2 r3
  subst en; subst r0; subst r1; subst r2; subst r3
  exact ⟨nb, a0, a1, a2, a3, rfl, U64.of_wf w0, U64.of_wf w1, U64.of_wf w2, U64.of_wf w3⟩
theorem list10 {l : List Value} (h : l.length = 10) : ∃ a b c d e x y z u v, l = [a, b, c, d, e, x, y, z, u, v] := by
  match l, h with
  | [a, b, c, d, e, x, y, z, u, v], _ => exact ⟨a, b, c, d, e, x, y, z, u, v, rfl⟩
theorem cells_wid {t e : TypeId} {f0 f1 : Field} {n : Nat} {y : DataW H} {l : List Value} {W : World} (ht : P.underlying t = some (.struct #[f0, f1])) (k0 : P.underlying f0.type = some .bool) (k1 : P.underlying f1.type = some (.array 4 e)) (ke : P.underlying e = some (.int .u64)) (o0 : f0.offset = 0) (o1 : f1.offset = 1)
    (c0 : P.cellsOf f0.type = 1) (c1 : P.cellsOf f1.type = 4) (ce : P.cellsOf e = 1) (hl : l.length = 5) {ps : List MemPlace} (hf : DataW.trod enc P W 0 (fun _ => true) true n t l = some (y, ps)) : ∃ nb a b c d', l = [.bool nb, .int .u64 a, .int .u64 b, .int .u64 c, .int .u64 d'] ∧ U64 a ∧ U64 b ∧ U64 c ∧ U64 d' := by
  obtain ⟨y0, y1, m0, _, hlen, e0, e1⟩ := trod_struct2 ht hf
  obtain ⟨x, y', z, u, v, rfl⟩ := list5 hl
  rw [o0, c0] at e0
  rw [o1, c1] at e1
  obtain ⟨nb, en, -⟩ := DataW.trod_bool k0 e0
  have e1' : DataW.trod enc P W 0 (fun _ => true) true m0 f1.type [y', z, u, v] = some y1 := by simpa [Value.cells] using e1
  obtain ⟨z0, z1, z2, z3, m, _, g0, g1, g2, g3⟩ := trod_array4 k1 ce e1'
  obtain ⟨a0, r0, -, w0⟩ := DataW.trod_int ke g0
  obtain ⟨a1, r1, -, w1⟩ := DataW.trod_int ke g1
  obtain ⟨a2, r2, -, w2⟩ := DataW.trod_int ke g2
  obtain ⟨a3, r3, -, w3⟩ := DataW.trod_int ke g3
  simp [Value.cells] at en r0 r1 r2 r3
  subst en; subst r0; subst r1; subst r2; subst r3
  exact ⟨nb, a0, a1, a2, a3, rfl, U64.of_wf w0, U64.of_wf w1, U64.of_wf w2, U64.of_wf w3⟩
end
set_option maxRecDepth 100000 in
theorem open_wide {H : Type} {enc : TypeId × Value → H} {v : Value} {d : DataW H} {ps : List MemPlace} {W : World} {base : Nat} (hv : Value.okWide Try.prog W .any base 38 v) (h : DataW.Trod enc Try.prog W 0 (fun _ => true) true 38 v d ps) : ∃ n a b c d', v = WV n a b c d' ∧ U64 a ∧ U64 b ∧ U64 c ∧ U64 d' :=
  open_wid Try.underlying38 Try.underlying4 Try.underlying36 Try.underlying35 rfl rfl (by kernel_rfl) (by kernel_rfl) (by kernel_rfl) (by kernel_rfl) hv h
set_option maxRecDepth 100000 in
theorem open_ratio {H : Type} {enc : TypeId × Value → H} {v : Value} {d : DataW H} {ps : List MemPlace} {W : World} {base : Nat} (hv : Value.okWide Try.prog W .any base 53 v) (h : DataW.Trod enc Try.prog W 0 (fun _ => true) true 53 v d ps) : ∃ n a b c d' n1 a1 b1 c1 d1, v = .agg #[.bool n, .int .u64 a, .int .u64 b, .int .u64 c, .int .u64 d', .bool n1, .int .u64 a1, .int .u64 b1, .int .u64 c1, .int .u64 d1] ∧ (U64 a ∧ U64 b ∧ U64 c ∧ U64 d') ∧ (U64 a1 ∧ U64 b1 ∧ U64 c1 ∧ U64 d1) := by
  obtain ⟨cs, rfl, hsz⟩ := okWide_struct Try.underlying53 hv
  obtain ⟨fuel, hf⟩ := h
  obtain ⟨y0, y1, n, _, hlen, e0, e1⟩ := trod_struct2 Try.underlying53 hf
  have ct : Try.prog.cellsOf 53 = 10 := by kernel_rfl
  have cw : Try.prog.cellsOf 38 = 5 := by kernel_rfl
  have hl : cs.toList.length = 10 := by rw [Array.length_toList, hsz, ct]
  obtain ⟨a0, a1, a2, a3, a4, a5, a6, a7, a8, a9, hxy⟩ := list10 hl
  have hcs : cs = #[a0, a1, a2, a3, a4, a5, a6, a7, a8, a9] := by rw [← Array.toArray_toList (xs := cs), hxy]
  subst hcs
  simp only [cw] at e0 e1
  have e0' : DataW.trod enc Try.prog W 0 (fun _ => true) true n 38 [a0, a1, a2, a3, a4] = some y0 := by simpa [Value.cells] using e0
  have e1' : DataW.trod enc Try.prog W 0 (fun _ => true) true n 38 [a5, a6, a7, a8, a9] = some y1 := by simpa [Value.cells] using e1
  obtain ⟨n1, w0, w1, w2, w3, g1, u1, u2, u3, u4⟩ := cells_wid Try.underlying38 Try.underlying4 Try.underlying36 Try.underlying35 rfl rfl (by kernel_rfl) (by kernel_rfl) (by kernel_rfl) rfl e0'
  obtain ⟨n2, x0, x1, x2, x3, g2, v1, v2, v3, v4⟩ := cells_wid Try.underlying38 Try.underlying4 Try.underlying36 Try.underlying35 rfl rfl (by kernel_rfl) (by kernel_rfl) (by kernel_rfl) rfl e1'
  cases g1
  cases g2
  exact ⟨_, _, _, _, _, _, _, _, _, _, rfl, ⟨u1, u2, u3, u4⟩, ⟨v1, v2, v3, v4⟩⟩
end Go.Proofs.Ytncmmbacoknefaa
