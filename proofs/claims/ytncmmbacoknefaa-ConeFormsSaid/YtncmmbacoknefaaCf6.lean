/- Several texts in one: Kd, CdL13, L13, Open, OpK. -/
import Derived.Test.YtncmmbacoknefaaProg
import Derived.Test.YtncmmbacoknefaaRows
import Derived.OpenShut
import Derived.SizedLaws
import Derived.Laws.IdiomArrays
import Derived.Deep.Strs
import Derived.Test.YtncmmbacoknefaaCf2
import Derived.Test.YtncmmbacoknefaaCf4
import Derived.Test.YtncmmbacoknefaaCf5

/- Kd: Cones: what both programs' Through return. -/
namespace Go.Proofs.Ytncmmbacoknefaa
open Go Go.RowKit Sx
set_option linter.unusedVariables false
set_option linter.unusedSimpArgs false
def thok (t : Bool) (z eps dt : Int) : Bool := t && (decide (ab z < 73786976294838206464) && (decide (0 ≤ eps) && (decide (eps ≤ 4611686018427387904) && decide (dt ≠ 0))))
def thc (z v eps dt : Int) : Cn := ⟨false, mn (v - z - eps) dt, mD (v - z - eps) dt, mn (v - z + eps) dt, mD (v - z + eps) dt⟩
def thV (t : Bool) (z v eps dt : Int) : Value := if thok t z eps dt then .tuple #[(thc z v eps dt).v, .bool true] else .tuple #[KX false 0 0 0 0, .bool false]
theorem small66 {z : Int} (h : Fits z) : ab z < 73786976294838206464 ↔ lb3 (ab z) = 0 ∧ lb2 (ab z) = 0 ∧ lb1 (ab z) < 4 := by
  have h0 := ab_nonneg z
  have h4 := mv_me (z := ab z) ⟨h0, (fits_lt z).1 h⟩
  have b0 := lb0_in (ab z)
  have b1 := lb1_in (ab z)
  have b2 := lb2_in (ab z)
  have b3 := lb3_in (ab z)
  generalize lb0 (ab z) = a at *
  generalize lb1 (ab z) = b at *
  generalize lb2 (ab z) = c at *
  generalize lb3 (ab z) = d at *
  unfold MV at h4
  obtain ⟨a1, a2⟩ := b0
  obtain ⟨c1, c2⟩ := b1
  obtain ⟨d1, d2⟩ := b2
  obtain ⟨e1, e2⟩ := b3
  omega
/-- The law of a fraction that Make returns. -/
theorem mk_law {n d : Int} (hd : 0 < d) : 0 < mD n d ∧ mn n d * d = n * mD n d ∧ ab (mn n d) ≤ ab n ∧ mD n d ≤ d ∧ gc (mn n d) (mD n d) = 1 := by
  have h0 : d ≠ 0 := by omega
  have hg := gc_pos (x := n) h0
  have e : ¬ d < 0 := by omega
  have a1 : mn n d = n / gc n d := by unfold mn; rw [if_neg e]
  have a2 : mD n d = d / gc n d := by unfold mD; rw [ab_pos (by omega)]
  have k1 : n / gc n d * gc n d = n := Int.ediv_mul_cancel (gc_dvd_l n d)
  have k2 : d / gc n d * gc n d = d := Int.ediv_mul_cancel (gc_dvd_r n d)
  have b1 : ab (mn n d) ≤ ab n := by
    rw [a1]
    exact ab_fdiv_le n hg
  have b2 : mD n d ≤ d := by
    rw [a2]
    have := ab_fdiv_le d hg
    rw [ab_pos (show 0 ≤ d by omega)] at this
    have : d / gc n d ≤ ab (d / gc n d) := by unfold ab; split <;> omega
    omega
  refine ⟨mk_pos h0, ?_, b1, b2, mk_gc h0⟩
  rw [a1, a2]
  calc n / gc n d * d = n / gc n d * (d / gc n d * gc n d) := by rw [k2]
    _ = (n / gc n d * gc n d) * (d / gc n d) := by rw [Int.mul_comm (d / gc n d), ← Int.mul_assoc]
    _ = n * (d / gc n d) := by rw [k1]
theorem mk_fq {n d : Int} (hn : Bd 100 n) (hd : U64 d) (h0 : d ≠ 0) : mok true n d = true ∧ Fq (mn n d) (mD n d) := by
  obtain ⟨h1, -, h2, h3, h4⟩ := mk_law (n := n) (d := d) (by have := hd.1; omega)
  have c1 : Bd 127 (mn n d) := bd_le (bd_of_le hn h2) (by decide)
  have c2 : Bd 127 (mD n d) := bd_le (bd_of_le (bd_u64 hd) (by rw [ab_pos (by omega), ab_pos (by omega)]; exact h3)) (by decide)
  refine ⟨?_, ⟨h1, c1, c2, h4⟩⟩
  have e1 : decide (ab (mn n d) < ((2 ^ 127 : Nat) : Int)) = true := decide_eq_true c1
  have e2 : decide (ab (mD n d) < ((2 ^ 127 : Nat) : Int)) = true := decide_eq_true c2
  unfold mok
  rw [e1, e2, decide_eq_false h0]
  rfl
theorem mk_le {n m d : Int} (hd : 0 < d) (h : n ≤ m) : mn n d * mD m d ≤ mn m d * mD n d := by
  obtain ⟨h1, h2, -⟩ := mk_law (n := n) hd
  obtain ⟨g1, g2, -⟩ := mk_law (n := m) hd
  have a := Int.mul_le_mul_of_nonneg_right h (Int.le_of_lt (Int.mul_pos h1 g1))
  have e1 : mn n d * mD m d * d = n * (mD n d * mD m d) := by rw [Int.mul_right_comm, h2, Int.mul_assoc]
  have e2 : mn m d * mD n d * d = m * (mD n d * mD m d) := by rw [Int.mul_right_comm, g2, Int.mul_assoc, Int.mul_comm (mD m d)]
  rw [← e1, ← e2] at a
  exact Int.le_of_mul_le_mul_right a hd
structure ThP (z v eps dt : Int) : Prop where
  fz : Fits z
  fr : Fits (v - z)
  fl : Fits (v - z - eps)
  fu : Fits (v - z + eps)
  ml : mok true (v - z - eps) dt = true
  mu : mok true (v - z + eps) dt = true
  cl : Cl (mn (v - z - eps) dt) (mD (v - z - eps) dt) (mn (v - z + eps) dt) (mD (v - z + eps) dt)
theorem th_p {z v eps dt : Int} (hz : ab z < 73786976294838206464) (hv : I64 v) (he : 0 ≤ eps ∧ eps ≤ 4611686018427387904) (hd : U64 dt) (h0 : dt ≠ 0) : ThP z v eps dt := by
  have ie : I64 eps := ⟨by omega, by omega⟩
  have b0 : Bd 66 z := hz
  have b1 : Bd 70 (v - z) := bd_sub (bd_i64 hv) b0 (by decide) (by decide)
  have b2 : Bd 100 (v - z - eps) := bd_sub b1 (bd_i64 ie) (by decide) (by decide)
  have b3 : Bd 100 (v - z + eps) := bd_add b1 (bd_i64 ie) (by decide) (by decide)
  obtain ⟨m1, f1⟩ := mk_fq b2 hd h0
  obtain ⟨m2, f2⟩ := mk_fq b3 hd h0
  exact ⟨b0.fits, b1.fits, b2.fits, b3.fits, m1, m2, f1, f2, mk_le (by have := hd.1; omega) (by omega)⟩
theorem thok_iff {t : Bool} {z eps dt : Int} : thok t z eps dt = true ↔ t = true ∧ ab z < 73786976294838206464 ∧ 0 ≤ eps ∧ eps ≤ 4611686018427387904 ∧ dt ≠ 0 := by
  unfold thok
  simp only [Bool.and_eq_true, decide_eq_true_eq]
theorem thV_no {t : Bool} {z v eps dt : Int} (h : ¬ (t = true ∧ ab z < 73786976294838206464 ∧ 0 ≤ eps ∧ eps ≤ 4611686018427387904 ∧ dt ≠ 0)) : thV t z v eps dt = .tuple #[KX false 0 0 0 0, .bool false] := by
  unfold thV
  rw [if_neg (fun e => h (thok_iff.1 e))]
theorem thV_yes {z v eps dt : Int} (hz : ab z < 73786976294838206464) (h1 : 0 ≤ eps) (h2 : eps ≤ 4611686018427387904) (h0 : dt ≠ 0) : thV true z v eps dt = .tuple #[KX false (mn (v - z - eps) dt) (mD (v - z - eps) dt) (mn (v - z + eps) dt) (mD (v - z + eps) dt), .bool true] := by
  unfold thV
  rw [if_pos (thok_iff.2 ⟨rfl, hz, h1, h2, h0⟩)]
  rfl
set_option maxRecDepth 100000 in
set_option maxHeartbeats 1000000 in
theorem gx_through {b : Value} {t : Bool} {z v eps dt : Int} (h : RW b t z) (hv : I64 v) (he : I64 eps) (hd : U64 dt) (W : World) : Gives Try.prog 55 [b, .int .i64 v, .int .i64 eps, .int .u64 dt] W (· = thV t z v eps dt) := by
  refine gives_known en_cone_Through ?_
  have v1 := fun W => gy_valid h W
  rcases h with ⟨rfl, rfl, h⟩ | ⟨rfl, rfl, rfl⟩
  · have hs := small66 h
    by_cases hok : ab z < 73786976294838206464 ∧ 0 ≤ eps ∧ eps ≤ 4611686018427387904 ∧ dt ≠ 0
    · obtain ⟨h1, h2, h3, h4⟩ := hok
      rw [thV_yes h1 h2 h3 h4]
      obtain ⟨s1, s2, s3⟩ := hs.1 h1
      have P := th_p h1 hv ⟨h2, h3⟩ hd h4
      have fe := (bd_i64 he).fits
      have fd := (bd_u64 hd).fits
      have o1 := fun W => gx_of hv W
      have o2 := fun W => gx_of he W
      have o3 := fun W => gx_ofU hd W
      have u1 := fun W => gx_sub (bd_i64 hv).fits P.fz P.fr W
      have u2 := fun W => gx_sub P.fr fe P.fl W
      have u3 := fun W => gx_add P.fr fe P.fu W
      have m1 := fun W => gx_make P.fl fd W
      have m2 := fun W => gx_make P.fu fd W
      rw [mkV_yes P.ml] at m1
      rw [mkV_yes P.mu] at m2
      have d1 : (lb3 (ab z) == 0) = true := beq_iff_eq.2 s1
      have d2 : (lb2 (ab z) == 0) = true := beq_iff_eq.2 s2
      have d4 : (dt == 0) = false := beq_eq_false_iff_ne.2 h4
      clear hs h h1 P
      generalize mn (v - z - eps) dt = N1 at *
      generalize mD (v - z - eps) dt = D1 at *
      generalize mn (v - z + eps) dt = N2 at *
      generalize mD (v - z + eps) dt = D2 at *
      refine known_of (enter Try.func55 cone_Through.ok (args := [_, _, _, _]) (by simp) ?_)
      repeat' (first | simp (disch := omega) only [sxE, cone_Through.E, Nat.reduceAdd, Nat.reduceEqDiff, Nat.reduceMul, Nat.reduceSub, Int.reduceAdd, Int.reduceSub, Int.reduceMul, Int.reduceNeg, Int.reduceLT, Int.reduceLE, Int.reduceEq, Int.reduceToNat, ↓reduceIte, Int.reducePow, Nat.reduceLeDiff, Nat.reduceLT, ne_eq, eq_self, List.length_cons, List.length_nil, qxE, kxE, d1, d2, d4] | (with_reducible refine Sx.call_at (f := 107) (fun W hW => v1 W) ?_) | (with_reducible refine Sx.call_at (f := 109) (fun W hW => o1 W) ?_) | (with_reducible refine Sx.call_at (f := 109) (fun W hW => o2 W) ?_) | (with_reducible refine Sx.call_at (f := 111) (fun W hW => o3 W) ?_) | (with_reducible refine Sx.call_at (f := 108) (fun W hW => u1 W) ?_) | (with_reducible refine Sx.call_at (f := 108) (fun W hW => u2 W) ?_) | (with_reducible refine Sx.call_at (f := 84) (fun W hW => u3 W) ?_) | (with_reducible refine Sx.call_at (f := 110) (fun W hW => m1 W) ?_) | (with_reducible refine Sx.call_at (f := 110) (fun W hW => m2 W) ?_))
    · rw [thV_no (fun e => hok e.2)]
      refine known_of (enter Try.func55 cone_Through.ok (args := [_, _, _, _]) (by simp) ?_)
      by_cases s1 : lb3 (ab z) = 0
      · have d1 : (lb3 (ab z) == 0) = true := beq_iff_eq.2 s1
        by_cases s2 : lb2 (ab z) = 0
        · have d2 : (lb2 (ab z) == 0) = true := beq_iff_eq.2 s2
          by_cases s3 : lb1 (ab z) < 4
          · have d3 : ¬ 4 ≤ lb1 (ab z) := by omega
            have hz := hs.2 ⟨s1, s2, s3⟩
            by_cases h2 : 0 ≤ eps
            · by_cases h3 : eps ≤ 4611686018427387904
              · obtain rfl : dt = 0 := Decidable.byContradiction fun e => hok ⟨hz, h2, h3, e⟩
                have d4 : ((0 : Int) == 0) = true := rfl
                repeat' (first | simp (disch := omega) only [sxE, cone_Through.E, Nat.reduceAdd, Nat.reduceEqDiff, Nat.reduceMul, Nat.reduceSub, Int.reduceAdd, Int.reduceSub, Int.reduceMul, Int.reduceNeg, Int.reduceLT, Int.reduceLE, Int.reduceEq, Int.reduceToNat, ↓reduceIte, Int.reducePow, Nat.reduceLeDiff, Nat.reduceLT, ne_eq, eq_self, List.length_cons, List.length_nil, qxE, kxE, d1, d2, d4] | (with_reducible refine Sx.call_at (f := 107) (fun W hW => v1 W) ?_))
              · repeat' (first | simp (disch := omega) only [sxE, cone_Through.E, Nat.reduceAdd, Nat.reduceEqDiff, Nat.reduceMul, Nat.reduceSub, Int.reduceAdd, Int.reduceSub, Int.reduceMul, Int.reduceNeg, Int.reduceLT, Int.reduceLE, Int.reduceEq, Int.reduceToNat, ↓reduceIte, Int.reducePow, Nat.reduceLeDiff, Nat.reduceLT, ne_eq, eq_self, List.length_cons, List.length_nil, qxE, kxE, d1, d2] | (with_reducible refine Sx.call_at (f := 107) (fun W hW => v1 W) ?_))
            · repeat' (first | simp (disch := omega) only [sxE, cone_Through.E, Nat.reduceAdd, Nat.reduceEqDiff, Nat.reduceMul, Nat.reduceSub, Int.reduceAdd, Int.reduceSub, Int.reduceMul, Int.reduceNeg, Int.reduceLT, Int.reduceLE, Int.reduceEq, Int.reduceToNat, ↓reduceIte, Int.reducePow, Nat.reduceLeDiff, Nat.reduceLT, ne_eq, eq_self, List.length_cons, List.length_nil, qxE, kxE, d1, d2] | (with_reducible refine Sx.call_at (f := 107) (fun W hW => v1 W) ?_))
          · repeat' (first | simp (disch := omega) only [sxE, cone_Through.E, Nat.reduceAdd, Nat.reduceEqDiff, Nat.reduceMul, Nat.reduceSub, Int.reduceAdd, Int.reduceSub, Int.reduceMul, Int.reduceNeg, Int.reduceLT, Int.reduceLE, Int.reduceEq, Int.reduceToNat, ↓reduceIte, Int.reducePow, Nat.reduceLeDiff, Nat.reduceLT, ne_eq, eq_self, List.length_cons, List.length_nil, qxE, kxE, d1, d2] | (with_reducible refine Sx.call_at (f := 107) (fun W hW => v1 W) ?_))
        · have d2 : (lb2 (ab z) == 0) = false := beq_eq_false_iff_ne.2 s2
          repeat' (first | simp (disch := omega) only [sxE, cone_Through.E, Nat.reduceAdd, Nat.reduceEqDiff, Nat.reduceMul, Nat.reduceSub, Int.reduceAdd, Int.reduceSub, Int.reduceMul, Int.reduceNeg, Int.reduceLT, Int.reduceLE, Int.reduceEq, Int.reduceToNat, ↓reduceIte, Int.reducePow, Nat.reduceLeDiff, Nat.reduceLT, ne_eq, eq_self, List.length_cons, List.length_nil, qxE, kxE, d1, d2] | (with_reducible refine Sx.call_at (f := 107) (fun W hW => v1 W) ?_))
      · have d1 : (lb3 (ab z) == 0) = false := beq_eq_false_iff_ne.2 s1
        repeat' (first | simp (disch := omega) only [sxE, cone_Through.E, Nat.reduceAdd, Nat.reduceEqDiff, Nat.reduceMul, Nat.reduceSub, Int.reduceAdd, Int.reduceSub, Int.reduceMul, Int.reduceNeg, Int.reduceLT, Int.reduceLE, Int.reduceEq, Int.reduceToNat, ↓reduceIte, Int.reducePow, Nat.reduceLeDiff, Nat.reduceLT, ne_eq, eq_self, List.length_cons, List.length_nil, qxE, kxE, d1] | (with_reducible refine Sx.call_at (f := 107) (fun W hW => v1 W) ?_))
  · rw [thV_no (fun e => Bool.noConfusion e.1)]
    refine known_of (enter Try.func55 cone_Through.ok (args := [_, _, _, _]) (by simp) ?_)
    repeat' (first | simp (disch := omega) only [sxE, cone_Through.E, Nat.reduceAdd, Nat.reduceEqDiff, Nat.reduceMul, Nat.reduceSub, Int.reduceAdd, Int.reduceSub, Int.reduceMul, Int.reduceNeg, Int.reduceLT, Int.reduceLE, Int.reduceEq, Int.reduceToNat, ↓reduceIte, Int.reducePow, Nat.reduceLeDiff, Nat.reduceLT, ne_eq, eq_self, List.length_cons, List.length_nil, qxE, kxE] | (with_reducible refine Sx.call_at (f := 107) (fun W hW => v1 W) ?_))
end Go.Proofs.Ytncmmbacoknefaa

/- CdL13: MADE BY PROGRAM (sxgen.py): the small code of some functions, points of it and their equations. -/
namespace Go.Proofs.Ytncmmbacoknefaa
open Go Go.RowKit Sx
set_option linter.unusedVariables false
variable (C : Cx) (R L1 L2 L3 L4 : St → Prop)
namespace w13_known
def r0 : List G := [(some 0, none, (.mv (.const (.bool false))))]
def r1 : List G := [(some 6, none, (.call false 20 [(.const (.int .i64 10))])), (some 7, none, (.call false 55 [(.tmp 6), (.const (.int .i64 20)), (.const (.int .i64 2)), (.const (.int .u64 4))])), (some 5, none, (.mv (.tmp 7))), (some 8, none, (.ex (.tmp 5) 0)), (some 9, none, (.ex (.tmp 5) 1)), (some 1, none, (.new [(.bool false), (.bool false), (.int .u64 0), (.int .u64 0), (.int .u64 0), (.int .u64 0), (.bool false), (.int .u64 0), (.int .u64 0), (.int .u64 0), (.int .u64 0), (.bool false), (.int .u64 0), (.int .u64 0), (.int .u64 0), (.int .u64 0), (.bool false), (.int .u64 0), (.int .u64 0), (.int .u64 0), (.int .u64 0)])), (none, none, (.st true 21 (.tmp 1) (.tmp 8))), (some 2, none, (.mv (.tmp 9)))]
def r2 : List G := [(some 11, none, (.ld true 21 (.tmp 1))), (some 12, none, (.call true 49 [])), (some 13, none, (.call true 60 [(.tmp 11), (.tmp 12)])), (some 10, none, (.mv (.tmp 13))), (some 14, none, (.ex (.tmp 10) 0)), (some 15, none, (.ex (.tmp 10) 1))]
def t2 : List G := [(some 3, none, (.new [(.bool false), (.bool false), (.int .u64 0), (.int .u64 0), (.int .u64 0), (.int .u64 0), (.bool false), (.int .u64 0), (.int .u64 0), (.int .u64 0), (.int .u64 0), (.bool false), (.int .u64 0), (.int .u64 0), (.int .u64 0), (.int .u64 0), (.bool false), (.int .u64 0), (.int .u64 0), (.int .u64 0), (.int .u64 0)])), (none, none, (.st true 21 (.tmp 3) (.tmp 14))), (some 4, none, (.mv (.tmp 15)))]
def r3 : List G := [(some 16, none, (.mv (.tmp 2))), (some 17, none, (.mv (.tmp 16))), (some 18, some (17, true), (.mv (.tmp 4))), (some 19, none, (.pick (.tmp 17) (.tmp 18) (.const (.bool false)))), (some 20, none, (.mv (.tmp 19))), (some 21, some (20, true), (.ld true 21 (.tmp 3))), (some 22, some (20, true), (.ld true 21 (.tmp 1))), (some 23, some (20, true), (.eqg false 76 (.tmp 21) (.tmp 22))), (some 24, none, (.pick (.tmp 20) (.tmp 23) (.const (.bool false)))), (some 25, none, (.mv (.tmp 24))), (some 26, some (25, true), (.ld true 21 (.tmp 1))), (some 27, some (25, true), (.call true 56 [(.tmp 26)])), (some 28, some (25, true), (.call true 82 [(.const (.int .i64 2))])), (some 29, some (25, true), (.eqg false 53 (.tmp 27) (.tmp 28))), (some 30, none, (.pick (.tmp 25) (.tmp 29) (.const (.bool false)))), (some 31, none, (.mv (.tmp 30))), (some 32, some (31, true), (.ld true 21 (.tmp 1))), (some 33, some (31, true), (.call true 101 [(.tmp 32)])), (some 34, none, (.pick (.tmp 31) (.tmp 33) (.const (.bool false)))), (some 35, none, (.mv (.tmp 34))), (some 36, some (35, true), (.ld true 21 (.tmp 1))), (some 37, some (35, true), (.call true 82 [(.const (.int .i64 3))])), (some 38, some (35, true), (.call true 59 [(.tmp 36), (.tmp 37)])), (some 39, none, (.pick (.tmp 35) (.tmp 38) (.const (.bool false)))), (some 40, none, (.mv (.tmp 39))), (some 41, some (40, true), (.ld true 21 (.tmp 1))), (some 42, some (40, true), (.call true 82 [(.const (.int .i64 4))])), (some 43, some (40, true), (.call true 59 [(.tmp 41), (.tmp 42)])), (some 44, some (40, true), (.un .not (.tmp 43))), (some 45, none, (.pick (.tmp 40) (.tmp 44) (.const (.bool false))))]
def t3 : List G := [(some 0, none, (.mv (.tmp 45)))]
def c : MC := (.seq (.reg r0 (some [])) (.seq (.reg r1 (some [1, 2])) (.seq (.dreg r2 t2 (some [1, 2, 3, 4])) (.seq (.dreg r3 t3 (some [0])) .ret))))
def ann : Ann := [(0, (some [], 0, [], [], [])), (1, (some [1, 2], 0, [], [], [])), (2, (some [1, 2, 3, 4], 7, [5], [(0, 0), (1, 0), (2, 0), (3, 0), (4, 0), (5, 2)], [6])), (3, (some [0], 30, [], [(0, 0), (1, 0), (2, 0), (3, 0), (4, 0), (5, 0), (6, 0), (7, 0), (8, 0), (9, 0), (10, 0), (11, 0), (12, 0), (13, 0), (14, 0), (15, 0), (16, 0), (17, 0), (18, 0), (19, 0), (20, 0), (21, 0), (22, 0), (23, 0), (24, 0), (25, 0), (26, 0), (27, 0), (28, 0), (29, 0)], []))]
theorem ok : compF Try.prog Try.f48 ann = some (46, c, [(0, none)]) := by kernel_rfl
def p1 (S : St) : Prop := ops C r3 (ops C t3 (kq [0] R)) S
def p2 (S : St) : Prop := ops C r2 (ops C t2 (kq [1, 2, 3, 4] (p1 C R))) S
def p3 (S : St) : Prop := ops C r1 (kq [1, 2] (p2 C R)) S
def p4 (S : St) : Prop := ops C r0 (kq [] (p3 C R)) S
theorem s (S : St) : X C c (retK R) S = p4 C R S := by kernel_rfl
theorem E : type_of% @r3.eq_1 ∧ type_of% @t3.eq_1 ∧ type_of% @p1.eq_1 ∧ type_of% @r2.eq_1 ∧ type_of% @t2.eq_1 ∧ type_of% @p2.eq_1 ∧ type_of% @r1.eq_1 ∧ type_of% @p3.eq_1 ∧ type_of% @r0.eq_1 ∧ type_of% @p4.eq_1 ∧ type_of% @s := ⟨@r3.eq_1, @t3.eq_1, @p1.eq_1, @r2.eq_1, @t2.eq_1, @p2.eq_1, @r1.eq_1, @p3.eq_1, @r0.eq_1, @p4.eq_1, @s⟩
end w13_known
namespace w13_some
def r0 : List G := [(some 2, none, (.new [(.bool false), (.bool false), (.int .u64 0), (.int .u64 0), (.int .u64 0), (.int .u64 0), (.bool false), (.int .u64 0), (.int .u64 0), (.int .u64 0), (.int .u64 0), (.bool false), (.int .u64 0), (.int .u64 0), (.int .u64 0), (.int .u64 0), (.bool false), (.int .u64 0), (.int .u64 0), (.int .u64 0), (.int .u64 0)]))]
def r1 : List G := [(some 5, none, (.mv (.tmp 0))), (some 6, none, (.call false 52 [(.tmp 5), (.const (.int .i64 8))]))]
def r2 : List G := [(some 7, none, (.call false 50 [])), (none, none, (.st true 21 (.tmp 2) (.tmp 7)))]
def r3 : List G := [(some 8, none, (.mv (.tmp 0))), (some 9, none, (.call false 29 [(.tmp 8)])), (some 10, none, (.mv (.tmp 0))), (some 11, none, (.call false 29 [(.tmp 10)])), (some 3, none, (.new zR)), (some 4, none, (.new zR)), (none, none, (.st true 10 (.tmp 3) (.tmp 9))), (none, none, (.st true 10 (.tmp 4) (.tmp 11)))]
def r4 : List G := [(some 12, none, (.ld true 10 (.tmp 3))), (some 13, none, (.ld true 10 (.tmp 4))), (some 14, none, (.call false 100 [(.tmp 12), (.tmp 13)])), (some 15, none, (.bin .gtr (.tmp 14) (.const (.int .i64 0))))]
def r5 : List G := [(some 16, none, (.ld true 10 (.tmp 4))), (some 17, none, (.ld true 10 (.tmp 3))), (none, none, (.st true 10 (.tmp 3) (.tmp 16))), (none, none, (.st true 10 (.tmp 4) (.tmp 17)))]
def r6 : List G := [(some 18, none, (.ld true 10 (.tmp 3))), (some 19, none, (.ld true 10 (.tmp 4))), (some 20, none, (.bd [(.bool false), (.bool false), (.int .u64 0), (.int .u64 0), (.int .u64 0), (.int .u64 0), (.bool false), (.int .u64 0), (.int .u64 0), (.int .u64 0), (.int .u64 0), (.bool false), (.int .u64 0), (.int .u64 0), (.int .u64 0), (.int .u64 0), (.bool false), (.int .u64 0), (.int .u64 0), (.int .u64 0), (.int .u64 0)] [(1, 10, (.tmp 18)), (11, 10, (.tmp 19))])), (none, none, (.st true 21 (.tmp 2) (.tmp 20)))]
def c : MC := (.seq (.reg r0 (some [0, 2])) (.seq (.seq (.reg r1 (some [0, 2, 6])) (.cond (.tmp 6) (.seq (.reg r2 (some [2])) .ret) .skip)) (.seq (.reg r3 (some [2, 3, 4])) (.seq (.seq (.reg r4 (some [2, 3, 4, 15])) (.cond (.tmp 15) (.reg r5 (some [2, 3, 4])) .skip)) (.seq (.reg r6 (some [2])) .ret)))))
def ann : Ann := [(0, (some [0, 2], 0, [], [], [])), (1, (some [0, 2, 6], 0, [], [], [])), (2, (some [2], 0, [], [], [])), (3, (some [2, 3, 4], 0, [], [], [])), (4, (some [2, 3, 4, 15], 0, [], [], [])), (5, (some [2, 3, 4], 0, [], [], [])), (6, (some [2], 0, [], [], []))]
theorem ok : compF Try.prog Try.f47 ann = some (21, c, [(2, some (true, 21))]) := by kernel_rfl
def p1 (S : St) : Prop := ops C r6 (kq [2] R) S
def p3 (S : St) : Prop := ops C r5 (kq [2, 3, 4] (p1 C R)) S
def p2 (S : St) : Prop := condX (S.ev (.tmp 15)) (p3 C R) (p1 C R) S
def p4 (S : St) : Prop := ops C r4 (kq [2, 3, 4, 15] (p2 C R)) S
def p5 (S : St) : Prop := ops C r3 (kq [2, 3, 4] (p4 C R)) S
def p7 (S : St) : Prop := ops C r2 (kq [2] R) S
def p6 (S : St) : Prop := condX (S.ev (.tmp 6)) (p7 C R) (p5 C R) S
def p8 (S : St) : Prop := ops C r1 (kq [0, 2, 6] (p6 C R)) S
def p9 (S : St) : Prop := ops C r0 (kq [0, 2] (p8 C R)) S
theorem s (S : St) : X C c (retK R) S = p9 C R S := by kernel_rfl
theorem E : type_of% @r6.eq_1 ∧ type_of% @p1.eq_1 ∧ type_of% @r5.eq_1 ∧ type_of% @p3.eq_1 ∧ type_of% @p2.eq_1 ∧ type_of% @r4.eq_1 ∧ type_of% @p4.eq_1 ∧ type_of% @r3.eq_1 ∧ type_of% @p5.eq_1 ∧ type_of% @r2.eq_1 ∧ type_of% @p7.eq_1 ∧ type_of% @p6.eq_1 ∧ type_of% @r1.eq_1 ∧ type_of% @p8.eq_1 ∧ type_of% @r0.eq_1 ∧ type_of% @p9.eq_1 ∧ type_of% @s := ⟨@r6.eq_1, @p1.eq_1, @r5.eq_1, @p3.eq_1, @p2.eq_1, @r4.eq_1, @p4.eq_1, @r3.eq_1, @p5.eq_1, @r2.eq_1, @p7.eq_1, @p6.eq_1, @r1.eq_1, @p8.eq_1, @r0.eq_1, @p9.eq_1, @s⟩
end w13_some
namespace w13_alike
def r0 : List G := [(some 3, none, (.box true 21 (.tmp 0))), (some 4, none, (.box true 21 (.tmp 1))), (some 5, none, (.box true 10 (.tmp 2))), (some 6, none, (.mv (.const (.bool false))))]
def r1 : List G := [(some 12, none, (.ld true 21 (.tmp 3))), (some 13, none, (.ld true 21 (.tmp 4))), (some 14, none, (.call false 60 [(.tmp 12), (.tmp 13)])), (some 11, none, (.mv (.tmp 14))), (some 15, none, (.ex (.tmp 11) 0)), (some 16, none, (.ex (.tmp 11) 1)), (some 7, none, (.new [(.bool false), (.bool false), (.int .u64 0), (.int .u64 0), (.int .u64 0), (.int .u64 0), (.bool false), (.int .u64 0), (.int .u64 0), (.int .u64 0), (.int .u64 0), (.bool false), (.int .u64 0), (.int .u64 0), (.int .u64 0), (.int .u64 0), (.bool false), (.int .u64 0), (.int .u64 0), (.int .u64 0), (.int .u64 0)])), (none, none, (.st true 21 (.tmp 7) (.tmp 15))), (some 8, none, (.mv (.tmp 16)))]
def r2 : List G := [(some 18, none, (.ld true 21 (.tmp 3))), (some 19, none, (.ld true 21 (.tmp 4))), (some 20, none, (.call false 102 [(.tmp 18), (.tmp 19)])), (some 17, none, (.mv (.tmp 20))), (some 21, none, (.ex (.tmp 17) 0)), (some 22, none, (.ex (.tmp 17) 1)), (some 9, none, (.new [(.bool false), (.bool false), (.int .u64 0), (.int .u64 0), (.int .u64 0), (.int .u64 0), (.bool false), (.int .u64 0), (.int .u64 0), (.int .u64 0), (.int .u64 0), (.bool false), (.int .u64 0), (.int .u64 0), (.int .u64 0), (.int .u64 0), (.bool false), (.int .u64 0), (.int .u64 0), (.int .u64 0), (.int .u64 0)])), (none, none, (.st true 21 (.tmp 9) (.tmp 21))), (some 10, none, (.mv (.tmp 22)))]
def r3 : List G := [(some 23, none, (.ld true 21 (.tmp 7))), (some 24, none, (.ld true 21 (.tmp 9))), (some 25, none, (.eqg false 76 (.tmp 23) (.tmp 24))), (some 26, none, (.mv (.tmp 25))), (some 27, some (26, true), (.mv (.tmp 8))), (some 28, some (26, true), (.mv (.tmp 10))), (some 29, some (26, true), (.bq false (.tmp 27) (.tmp 28))), (some 30, none, (.pick (.tmp 26) (.tmp 29) (.const (.bool false)))), (some 31, none, (.mv (.tmp 30))), (some 32, some (31, true), (.ld true 21 (.tmp 3))), (some 33, some (31, true), (.call true 101 [(.tmp 32)])), (some 34, some (31, true), (.ld true 21 (.tmp 3))), (some 35, some (31, true), (.call true 103 [(.tmp 34)])), (some 36, some (31, true), (.bq false (.tmp 33) (.tmp 35))), (some 37, none, (.pick (.tmp 31) (.tmp 36) (.const (.bool false)))), (some 38, none, (.mv (.tmp 37))), (some 39, some (38, true), (.ld true 21 (.tmp 3))), (some 40, some (38, true), (.ld true 10 (.tmp 5))), (some 41, some (38, true), (.call true 59 [(.tmp 39), (.tmp 40)])), (some 42, some (38, true), (.ld true 21 (.tmp 3))), (some 43, some (38, true), (.ld true 10 (.tmp 5))), (some 44, some (38, true), (.call true 104 [(.tmp 42), (.tmp 43)])), (some 45, some (38, true), (.bq false (.tmp 41) (.tmp 44))), (some 46, none, (.pick (.tmp 38) (.tmp 45) (.const (.bool false)))), (some 47, none, (.mv (.tmp 46))), (some 48, some (47, true), (.ld true 21 (.tmp 3))), (some 49, some (47, true), (.call true 56 [(.tmp 48)])), (some 50, some (47, true), (.ld true 21 (.tmp 3))), (some 51, some (47, true), (.call true 105 [(.tmp 50)])), (some 52, some (47, true), (.eqg false 53 (.tmp 49) (.tmp 51))), (some 53, none, (.pick (.tmp 47) (.tmp 52) (.const (.bool false))))]
def t3 : List G := [(some 6, none, (.mv (.tmp 53)))]
def c : MC := (.seq (.reg r0 (some [3, 4, 5])) (.seq (.reg r1 (some [3, 4, 5, 7, 8])) (.seq (.reg r2 (some [3, 5, 7, 8, 9, 10])) (.seq (.dreg r3 t3 (some [6])) .ret))))
def ann : Ann := [(0, (some [3, 4, 5], 0, [], [], [])), (1, (some [3, 4, 5, 7, 8], 0, [], [], [])), (2, (some [3, 5, 7, 8, 9, 10], 0, [], [], [])), (3, (some [6], 31, [], [(0, 0), (1, 0), (2, 0), (3, 0), (4, 0), (5, 0), (6, 0), (7, 0), (8, 0), (9, 0), (10, 0), (11, 0), (12, 0), (13, 0), (14, 0), (15, 0), (16, 0), (17, 0), (18, 0), (19, 0), (20, 0), (21, 0), (22, 0), (23, 0), (24, 0), (25, 0), (26, 0), (27, 0), (28, 0), (29, 0), (30, 0)], []))]
theorem ok : compF Try.prog Try.f51 ann = some (54, c, [(6, none)]) := by kernel_rfl
def p1 (S : St) : Prop := ops C r3 (ops C t3 (kq [6] R)) S
def p2 (S : St) : Prop := ops C r2 (kq [3, 5, 7, 8, 9, 10] (p1 C R)) S
def p3 (S : St) : Prop := ops C r1 (kq [3, 4, 5, 7, 8] (p2 C R)) S
def p4 (S : St) : Prop := ops C r0 (kq [3, 4, 5] (p3 C R)) S
theorem s (S : St) : X C c (retK R) S = p4 C R S := by kernel_rfl
theorem E : type_of% @r3.eq_1 ∧ type_of% @t3.eq_1 ∧ type_of% @p1.eq_1 ∧ type_of% @r2.eq_1 ∧ type_of% @p2.eq_1 ∧ type_of% @r1.eq_1 ∧ type_of% @p3.eq_1 ∧ type_of% @r0.eq_1 ∧ type_of% @p4.eq_1 ∧ type_of% @s := ⟨@r3.eq_1, @t3.eq_1, @p1.eq_1, @r2.eq_1, @p2.eq_1, @r1.eq_1, @p3.eq_1, @r0.eq_1, @p4.eq_1, @s⟩
end w13_alike
end Go.Proofs.Ytncmmbacoknefaa

/- L13: Helpers of the statements about cones: known, some, alike, through. -/
namespace Go.Proofs.Ytncmmbacoknefaa
open Go Go.RowKit Sx
set_option linter.unusedVariables false
set_option linter.unusedSimpArgs false
theorem fq_of {p q : Int} (h : rok true p q = true) : Fq p q := (rok_iff.1 h).2
set_option maxRecDepth 100000 in
set_option maxHeartbeats 1000000 in
theorem g_known13 (W : World) : Gives Try.prog 48 [] W (· = .bool true) := by
  have o1 := fun W => rx_of (i64n 10 (by decide)) W
  have t1 := fun W => gx_through (z := 10) (v := 20) (eps := 2) (dt := 4) (fits_i64 (i64n 10 (by decide))).rw (i64n 20 (by decide)) (i64n 2 (by decide)) ⟨by decide, by decide⟩ W
  rw [thV_yes (by decide +kernel) (by decide) (by decide) (by decide), show mn (20 - 10 - 2) 4 = 2 by decide +kernel, show mD (20 - 10 - 2) 4 = 1 by decide +kernel, show mn (20 - 10 + 2) 4 = 3 by decide +kernel, show mD (20 - 10 + 2) 4 = 1 by decide +kernel] at t1
  have f2 : Fq 2 1 := fq_of (by decide +kernel)
  have f3 : Fq 3 1 := fq_of (by decide +kernel)
  have f4 : Fq 4 1 := fq_of (by decide +kernel)
  have cl : Cl 2 1 3 1 := ⟨f2, f3, by decide⟩
  have kv := kv_ok cl.ok
  have m1 := fun W => gx_meetR cl W
  have s1 := fun W => gx_kstart W
  have ch := fun W => gx_choose kv W
  rw [show (cho true ⟨false, 2, 1, 3, 1⟩).1 = 2 by decide +kernel, show (cho true ⟨false, 2, 1, 3, 1⟩).2 = 1 by decide +kernel] at ch
  have r2 := fun W => rx_rof (z := 2) (i64n 2 (by decide)) W
  have r3 := fun W => rx_rof (z := 3) (i64n 3 (by decide)) W
  have r4 := fun W => rx_rof (z := 4) (i64n 4 (by decide)) W
  have va := fun W => gx_kval cl W
  have h3 := fun W => gx_has kv f3.cq f3.v1 W
  have h4 := fun W => gx_has kv f4.cq f4.v1 W
  rw [show (true && true && (Cn.mk false 2 1 3 1).has 3 1) = true by decide +kernel] at h3
  rw [show (true && true && (Cn.mk false 2 1 3 1).has 4 1) = false by decide +kernel] at h4
  change ∀ W, Gives _ _ [KX false 2 1 3 1] W _ at ch
  change ∀ W, Gives _ _ [KX false 2 1 3 1, RX 3 1] W _ at h3
  change ∀ W, Gives _ _ [KX false 2 1 3 1, RX 4 1] W _ at h4
  have a2 := f2.fp
  have a1 := f2.fq
  have a3 := f3.fp
  have bff := bb_self false
  refine gives_known en_w13_known ?_
  refine known_of (enter Try.func48 w13_known.ok (args := []) (by simp) ?_)
  repeat' (first | simp (disch := omega) only [sxE, w13_known.E, Nat.reduceAdd, Nat.reduceEqDiff, Nat.reduceMul, Nat.reduceSub, Int.reduceAdd, Int.reduceSub, Int.reduceMul, Int.reduceNeg, Int.reduceLT, Int.reduceLE, Int.reduceEq, Int.reduceToNat, ↓reduceIte, Int.reducePow, Nat.reduceLeDiff, Nat.reduceLT, ne_eq, eq_self, List.length_cons, List.length_nil, qxE, kxE, bff, Bool.true_and] | (with_reducible refine Sx.call_at (f := 20) (fun W hW => o1 W) ?_) | (with_reducible refine Sx.call_at (f := 55) (fun W hW => t1 W) ?_) | (with_reducible refine Sx.call_at (f := 49) (fun W hW => s1 W) ?_) | (with_reducible refine Sx.call_at (f := 60) (fun W hW => m1 W) ?_) | (with_reducible refine Sx.call_at (f := 56) (fun W hW => ch W) ?_) | (with_reducible refine Sx.call_at (f := 82) (fun W hW => r2 W) ?_) | (with_reducible refine Sx.call_at (f := 82) (fun W hW => r3 W) ?_) | (with_reducible refine Sx.call_at (f := 82) (fun W hW => r4 W) ?_) | (with_reducible refine Sx.call_at (f := 101) (fun W hW => va W) ?_) | (with_reducible refine Sx.call_at (f := 59) (fun W hW => h3 W) ?_) | (with_reducible refine Sx.call_at (f := 59) (fun W hW => h4 W) ?_) | (with_reducible refine eq_is (fun W => by first | exact eqk_run a2 a1 a3 a1 a2 a1 a3 a1 W) ?_) | (with_reducible refine eq_is (fun W => by first | exact eqq_run a2 a1 a2 a1 W) ?_))
set_option maxRecDepth 100000 in
set_option maxHeartbeats 1000000 in
theorem g_alike13 {v v' s : Value} {t t' : Bool} {c c' : Cn} {p q : Int} (h : KV v t c) (h' : KV v' t' c') (hs : CQ s p q) (W : World) : Gives Try.prog 51 [v, v', s] W (· = .bool true) := by
  obtain ⟨u, w1, w2, -⟩ := hs.vq
  have m1 : ∀ W, Gives Try.prog 60 [v, v'] W (· = .tuple #[(mtv (t && t') c c').1.v, .bool (mtv (t && t') c c').2]) := fun W => gx_meet h h' W
  have m2 : ∀ W, Gives Try.prog 102 [v, v'] W (· = .tuple #[(mtv (t && t') c c').1.v, .bool (mtv (t && t') c c').2]) := fun W => rx_meet h h' W
  have kf : Kf (mtv (t && t') c c').1 := mtv_kf (fun e => (h.is e).2) (fun e => (h'.is e).2)
  have va := h.v1
  have vb := h.v2
  have ha := fun W => gx_has h hs w1 W
  have hb := fun W => rx_has h hs w2 W
  have ca := fun W => gx_choose h W
  have cb := fun W => rx_choose h W
  obtain ⟨f1, f2⟩ := cho_fits (fun e => (h.is e).2)
  obtain ⟨x0, x1, x2, x3, x4, x5, x6, x7, x8, x9, x10, x11, x12, x13, x14, x15, x16, x17, x18, x19, x20, rfl⟩ := h.cells
  obtain ⟨y0, y1, y2, y3, y4, y5, y6, y7, y8, y9, y10, y11, y12, y13, y14, y15, y16, y17, y18, y19, y20, rfl⟩ := h'.cells
  obtain ⟨s0, s1, s2, s3, s4, s5, s6, s7, s8, s9, rfl⟩ := hs.ten
  clear h h' hs w1 w2
  generalize (t && u && c.has p q) = hh at *
  generalize mtv (t && t') c c' = M at *
  generalize cho t c = N at *
  obtain ⟨⟨o, a, b, a1, b1⟩, f⟩ := M
  obtain ⟨n1, n2⟩ := N
  obtain ⟨k1, k2, k3, k4⟩ := kf
  dsimp only [Cn.v] at m1 m2 k1 k2 k3 k4 f1 f2 ca cb
  have bo := bb_self o
  have bf := bb_self f
  have bt := bb_self t
  have bh := bb_self hh
  refine gives_known en_w13_alike ?_
  refine known_of (enter Try.func51 w13_alike.ok (args := [_, _, _]) (by simp) ?_)
  repeat' (first | simp (disch := omega) only [sxE, w13_alike.E, Nat.reduceAdd, Nat.reduceEqDiff, Nat.reduceMul, Nat.reduceSub, Int.reduceAdd, Int.reduceSub, Int.reduceMul, Int.reduceNeg, Int.reduceLT, Int.reduceLE, Int.reduceEq, Int.reduceToNat, ↓reduceIte, Int.reducePow, Nat.reduceLeDiff, Nat.reduceLT, ne_eq, eq_self, List.length_cons, List.length_nil, qxE, kxE, bo, bf, bt, bh, beq_self_eq_true] | (with_reducible refine Sx.call_at (f := 60) (fun W hW => m1 W) ?_) | (with_reducible refine Sx.call_at (f := 102) (fun W hW => m2 W) ?_) | (with_reducible refine Sx.call_at (f := 101) (fun W hW => va W) ?_) | (with_reducible refine Sx.call_at (f := 103) (fun W hW => vb W) ?_) | (with_reducible refine Sx.call_at (f := 59) (fun W hW => ha W) ?_) | (with_reducible refine Sx.call_at (f := 104) (fun W hW => hb W) ?_) | (with_reducible refine Sx.call_at (f := 56) (fun W hW => ca W) ?_) | (with_reducible refine Sx.call_at (f := 105) (fun W hW => cb W) ?_) | (with_reducible refine eq_is (fun W => by first | exact eqk_run k1 k2 k3 k4 k1 k2 k3 k4 W) ?_) | (with_reducible refine eq_is (fun W => by first | exact eqq_run f1 f2 f1 f2 W) ?_))
def IsK (v : Value) : Prop := ∃ c : Cn, c.ok ∧ v = c.v
set_option maxHeartbeats 2000000 in
set_option maxRecDepth 100000 in
theorem t_some (tb : Nat) : TpC 47 [.pointer (some ⟨tb, 0, none⟩)] tb Cn.ok (fun c => c.v) := by
  intro B Bm w ht
  refine Calls.mono (enterG Try.func47 w13_some.ok (args := [.pointer (some ⟨tb, 0, none⟩)]) (w0 := cut w tb) (T := kX (cut w tb).heap.size [.g (hK w tb B Bm)]) (R := fun v X => (IsK) v ∧ X = kX (cut w tb).heap.size [.g (hK w tb B Bm)]) (by simp) (below_cut (Nat.le_of_lt ht.lt)) (hK_start ht).1 (kX_stab (Sx.cx _ (cut w tb) _) _) (hK_start ht).2 ?run) ?fin; have hk := tpk_h' ht
  case fin =>
    rintro e w' ⟨v, X, rfl, ⟨⟨x, hx, rfl⟩, rfl⟩, hX, hb, -⟩
    obtain ⟨h1, h2⟩ := hK_end hX (List.mem_singleton.2 rfl) hb
    exact ⟨x, hx, rfl, h1, h2⟩
  case run =>
    try dsimp only
    repeat' (first | simp (disch := omega) only [sxE, w13_some.E, Nat.reduceAdd, Nat.reduceEqDiff, Nat.reduceMul, Nat.reduceSub, Int.reduceAdd, Int.reduceSub, Int.reduceMul, Int.reduceNeg, Int.reduceLT, Int.reduceLE, Int.reduceEq, Int.reduceToNat, ↓reduceIte, Int.reducePow, Nat.reduceLeDiff, Nat.reduceLT, ne_eq, eq_self, List.length_cons, List.length_nil, qxE, kxE])
    refine asks_tc rfl (hk) (t_bool tb (by decide) (by decide)) en_m_Tape__Bool rfl (by first | exact List.mem_singleton.2 rfl | simp) rfl (by first | exact fun j hj => .inl (List.mem_singleton.1 hj) | simp) ?_
    rintro (_ | _) -
    case' true =>
      repeat' (first | simp (disch := omega) only [sxE, w13_some.E, Nat.reduceAdd, Nat.reduceEqDiff, Nat.reduceMul, Nat.reduceSub, Int.reduceAdd, Int.reduceSub, Int.reduceMul, Int.reduceNeg, Int.reduceLT, Int.reduceLE, Int.reduceEq, Int.reduceToNat, ↓reduceIte, Int.reducePow, Nat.reduceLeDiff, Nat.reduceLT, ne_eq, eq_self, List.length_cons, List.length_nil, qxE, kxE] | (with_reducible refine Sx.call_at (f := 50) (fun W hW => rx_kstart W) ?_))
      exact ⟨cO, cO_ok, rfl⟩
    case' false =>
      repeat' (first | simp (disch := omega) only [sxE, w13_some.E, Nat.reduceAdd, Nat.reduceEqDiff, Nat.reduceMul, Nat.reduceSub, Int.reduceAdd, Int.reduceSub, Int.reduceMul, Int.reduceNeg, Int.reduceLT, Int.reduceLE, Int.reduceEq, Int.reduceToNat, ↓reduceIte, Int.reducePow, Nat.reduceLeDiff, Nat.reduceLT, ne_eq, eq_self, List.length_cons, List.length_nil, qxE, kxE])
      refine asks_tc rfl (hk) (t_ratio tb) en_m_Tape__Ratio rfl (by first | exact List.mem_singleton.2 rfl | simp) rfl (by first | exact fun j hj => .inl (List.mem_singleton.1 hj) | simp) ?_
      rintro ⟨p, q⟩ hf
      dsimp only at hf ⊢
      repeat' (first | simp (disch := omega) only [sxE, w13_some.E, Nat.reduceAdd, Nat.reduceEqDiff, Nat.reduceMul, Nat.reduceSub, Int.reduceAdd, Int.reduceSub, Int.reduceMul, Int.reduceNeg, Int.reduceLT, Int.reduceLE, Int.reduceEq, Int.reduceToNat, ↓reduceIte, Int.reducePow, Nat.reduceLeDiff, Nat.reduceLT, ne_eq, eq_self, List.length_cons, List.length_nil, qxE, kxE])
      refine asks_tc rfl (hk) (t_ratio tb) en_m_Tape__Ratio rfl (by first | exact List.mem_singleton.2 rfl | simp) rfl (by first | exact fun j hj => .inl (List.mem_singleton.1 hj) | simp) ?_
      rintro ⟨p1, q1⟩ hg
      dsimp only at hg ⊢
      have hgt := km_gt (p * q1) (p1 * q)
      have cmp := fun W => rx_rcompare hf.cq hg.cq W
      by_cases hle : p * q1 ≤ p1 * q
      · have c0 : ¬ 0 < cq p q p1 q1 := fun h => by have := hgt.1 h; omega
        repeat' (first | simp (disch := omega) only [sxE, w13_some.E, Nat.reduceAdd, Nat.reduceEqDiff, Nat.reduceMul, Nat.reduceSub, Int.reduceAdd, Int.reduceSub, Int.reduceMul, Int.reduceNeg, Int.reduceLT, Int.reduceLE, Int.reduceEq, Int.reduceToNat, ↓reduceIte, Int.reducePow, Nat.reduceLeDiff, Nat.reduceLT, ne_eq, eq_self, List.length_cons, List.length_nil, qxE, kxE] | (with_reducible refine Sx.call_at (f := 100) (fun W hW => cmp W) ?_))
        exact ⟨⟨false, p, q, p1, q1⟩, Cl.ok ⟨hf, hg, hle⟩, rfl⟩
      · have c0 : 0 < cq p q p1 q1 := hgt.2 (by omega)
        repeat' (first | simp (disch := omega) only [sxE, w13_some.E, Nat.reduceAdd, Nat.reduceEqDiff, Nat.reduceMul, Nat.reduceSub, Int.reduceAdd, Int.reduceSub, Int.reduceMul, Int.reduceNeg, Int.reduceLT, Int.reduceLE, Int.reduceEq, Int.reduceToNat, ↓reduceIte, Int.reducePow, Nat.reduceLeDiff, Nat.reduceLT, ne_eq, eq_self, List.length_cons, List.length_nil, qxE, kxE] | (with_reducible refine Sx.call_at (f := 100) (fun W hW => cmp W) ?_))
        exact ⟨⟨false, p1, q1, p, q⟩, Cl.ok ⟨hg, hf, by omega⟩, rfl⟩
end Go.Proofs.Ytncmmbacoknefaa

/- Open: Opening arguments that are structs: samples and Wides. -/
namespace Go.Proofs.Ytncmmbacoknefaa
open Go.ChangeShapes Go.WideShapes Go.ChangeAt Go.RowKit
set_option linter.unusedVariables false
set_option linter.unusedSimpArgs false
section
variable {H : Type} {enc : TypeId × Value → H} {P : Program}
theorem list5 {l : List Value} (h : l.length = 5) : ∃ x y z u v, l = [x, y, z, u, v] := by
  match l, h with
  | [x, y, z, u, v], _ => exact ⟨x, y, z, u, v, rfl⟩
theorem list10 {l : List Value} (h : l.length = 10) : ∃ a b c d e x y z u v, l = [a, b, c, d, e, x, y, z, u, v] := by
  match l, h with
  | [a, b, c, d, e, x, y, z, u, v], _ => exact ⟨a, b, c, d, e, x, y, z, u, v, rfl⟩
theorem cells_wid {t e : TypeId} {f0 f1 : Field} {n : Nat} {y : DataW H} {l : List Value} {W : World} (ht : P.underlying t = some (.struct #[f0, f1])) (k0 : P.underlying f0.type = some .bool) (k1 : P.underlying f1.type = some (.array 4 e)) (ke : P.underlying e = some (.int .u64)) (o0 : f0.offset = 0) (o1 : f1.offset = 1)
    (c0 : P.cellsOf f0.type = 1) (c1 : P.cellsOf f1.type = 4) (ce : P.cellsOf e = 1) (hl : l.length = 5) {ps : List MemPlace} (hf : DataW.trod enc P W 0 (fun _ => true) true n t l = some (y, ps)) : ∃ nb a b c d', l = [.bool nb, .int .u64 a, .int .u64 b, .int .u64 c, .int .u64 d'] ∧ U64 a ∧ U64 b ∧ U64 c ∧ U64 d' := by
  obtain ⟨y0, y1, m0, _, hlen, e0, e1⟩ := trod_struct2 ht hf
  obtain ⟨x, y', z, u, v, rfl⟩ := list5 hl
  rw [o0, c0] at e0
  rw [o1, c1] at e1
  obtain ⟨nb, en, -⟩ := DataW.trod_bool k0 e0
  have e1' : DataW.trod enc P W 0 (fun _ => true) true m0 f1.type [y', z, u, v] = some y1 := by simpa [Value.cells] using e1
  obtain ⟨z0, z1, z2, z3, m, _, g0, g1, g2, g3⟩ := trod_array4 k1 ce e1'
  obtain ⟨a0, r0, -, w0⟩ := DataW.trod_int ke g0
  obtain ⟨a1, r1, -, w1⟩ := DataW.trod_int ke g1
  obtain ⟨a2, r2, -, w2⟩ := DataW.trod_int ke g2
  obtain ⟨a3, r3, -, w3⟩ := DataW.trod_int ke g3
  simp [Value.cells] at en r0 r1 r2 r3
  subst en; subst r0; subst r1; subst r2; subst r3
  exact ⟨nb, a0, a1, a2, a3, rfl, U64.of_wf w0, U64.of_wf w1, U64.of_wf w2, U64.of_wf w3⟩
end
set_option maxRecDepth 100000 in
theorem open_ratio {H : Type} {enc : TypeId × Value → H} {v : Value} {d : DataW H} {ps : List MemPlace} {W : World} {base : Nat} (hv : Value.okWide Try.prog W .any base 53 v) (h : DataW.Trod enc Try.prog W 0 (fun _ => true) true 53 v d ps) : ∃ n a b c d' n1 a1 b1 c1 d1, v = .agg #[.bool n, .int .u64 a, .int .u64 b, .int .u64 c, .int .u64 d', .bool n1, .int .u64 a1, .int .u64 b1, .int .u64 c1, .int .u64 d1] ∧ (U64 a ∧ U64 b ∧ U64 c ∧ U64 d') ∧ (U64 a1 ∧ U64 b1 ∧ U64 c1 ∧ U64 d1) := by
  obtain ⟨cs, rfl, hsz⟩ := okWide_struct Try.underlying53 hv
  obtain ⟨fuel, hf⟩ := h
  obtain ⟨y0, y1, n, _, hlen, e0, e1⟩ := trod_struct2 Try.underlying53 hf
  have ct : Try.prog.cellsOf 53 = 10 := by kernel_rfl
  have cw : Try.prog.cellsOf 38 = 5 := by kernel_rfl
  have hl : cs.toList.length = 10 := by rw [Array.length_toList, hsz, ct]
  obtain ⟨a0, a1, a2, a3, a4, a5, a6, a7, a8, a9, hxy⟩ := list10 hl
  have hcs : cs = #[a0, a1, a2, a3, a4, a5, a6, a7, a8, a9] := by rw [← Array.toArray_toList (xs := cs), hxy]
  subst hcs
  simp only [cw] at e0 e1
  have e0' : DataW.trod enc Try.prog W 0 (fun _ => true) true n 38 [a0, a1, a2, a3, a4] = some y0 := by simpa [Value.cells] using e0
  have e1' : DataW.trod enc Try.prog W 0 (fun _ => true) true n 38 [a5, a6, a7, a8, a9] = some y1 := by simpa [Value.cells] using e1
  obtain ⟨n1, w0, w1, w2, w3, g1, u1, u2, u3, u4⟩ := cells_wid Try.underlying38 Try.underlying4 Try.underlying36 Try.underlying35 rfl rfl (by kernel_rfl) (by kernel_rfl) (by kernel_rfl) rfl e0'
  obtain ⟨n2, x0, x1, x2, x3, g2, v1, v2, v3, v4⟩ := cells_wid Try.underlying38 Try.underlying4 Try.underlying36 Try.underlying35 rfl rfl (by kernel_rfl) (by kernel_rfl) (by kernel_rfl) rfl e1'
  cases g1
  cases g2
  exact ⟨_, _, _, _, _, _, _, _, _, _, rfl, ⟨u1, u2, u3, u4⟩, ⟨v1, v2, v3, v4⟩⟩
end Go.Proofs.Ytncmmbacoknefaa

/- OpK: Opening arguments that are cones. -/
namespace Go.Proofs.Ytncmmbacoknefaa
open Go.ChangeShapes Go.WideShapes Go.ChangeAt Go.RowKit
set_option linter.unusedVariables false
set_option linter.unusedSimpArgs false
section
variable {H : Type} {enc : TypeId × Value → H}
theorem list21 {l : List Value} (h : l.length = 21) : ∃ o a b c d e f g h i j a1 b1 c1 d1 e1 f1 g1 h1 i1 j1, l = [o, a, b, c, d, e, f, g, h, i, j, a1, b1, c1, d1, e1, f1, g1, h1, i1, j1] := by
  match l, h with
  | [o, a, b, c, d, e, f, g, h, i, j, a1, b1, c1, d1, e1, f1, g1, h1, i1, j1], _ => exact ⟨o, a, b, c, d, e, f, g, h, i, j, a1, b1, c1, d1, e1, f1, g1, h1, i1, j1, rfl⟩
set_option maxRecDepth 100000 in
theorem cells_rat {l : List Value} {n : Nat} {y : DataW H} {W : World} (hl : l.length = 10) {ps : List MemPlace} (hf : DataW.trod enc Try.prog W 0 (fun _ => true) true n 53 l = some (y, ps)) :
    ∃ n a b c d' n1 a1 b1 c1 d1, l = [.bool n, .int .u64 a, .int .u64 b, .int .u64 c, .int .u64 d', .bool n1, .int .u64 a1, .int .u64 b1, .int .u64 c1, .int .u64 d1] ∧ (U64 a ∧ U64 b ∧ U64 c ∧ U64 d') ∧ (U64 a1 ∧ U64 b1 ∧ U64 c1 ∧ U64 d1) := by
  obtain ⟨y0, y1, n, _, hlen, e0, e1⟩ := trod_struct2 Try.underlying53 hf
  have cw : Try.prog.cellsOf 38 = 5 := by kernel_rfl
  obtain ⟨a0, a1, a2, a3, a4, a5, a6, a7, a8, a9, rfl⟩ := list10 hl
  simp only [cw] at e0 e1
  have e0' : DataW.trod enc Try.prog W 0 (fun _ => true) true n 38 [a0, a1, a2, a3, a4] = some y0 := by simpa [Value.cells] using e0
  have e1' : DataW.trod enc Try.prog W 0 (fun _ => true) true n 38 [a5, a6, a7, a8, a9] = some y1 := by simpa [Value.cells] using e1
  obtain ⟨n1, w0, w1, w2, w3, g1, u1, u2, u3, u4⟩ := cells_wid Try.underlying38 Try.underlying4 Try.underlying36 Try.underlying35 rfl rfl (by kernel_rfl) (by kernel_rfl) (by kernel_rfl) rfl e0'
  obtain ⟨n2, x0, x1, x2, x3, g2, v1, v2, v3, v4⟩ := cells_wid Try.underlying38 Try.underlying4 Try.underlying36 Try.underlying35 rfl rfl (by kernel_rfl) (by kernel_rfl) (by kernel_rfl) rfl e1'
  cases g1
  cases g2
  exact ⟨_, _, _, _, _, _, _, _, _, _, rfl, ⟨u1, u2, u3, u4⟩, ⟨v1, v2, v3, v4⟩⟩
end
set_option maxRecDepth 100000 in
theorem open_cone {H : Type} {enc : TypeId × Value → H} {v : Value} {d : DataW H} {ps : List MemPlace} {W : World} {base : Nat} (hv : Value.okWide Try.prog W .any base 76 v) (h : DataW.Trod enc Try.prog W 0 (fun _ => true) true 76 v d ps) : ∃ t x, KV v t x := by
  obtain ⟨cs, rfl, hsz⟩ := okWide_struct Try.underlying76 hv
  obtain ⟨fuel, hf⟩ := h
  obtain ⟨y0, y1, y2, n, _, hlen, e0, e1, e2⟩ := Go.Deep.trod_struct3 Try.underlying76 hf
  have ct : Try.prog.cellsOf 76 = 21 := by kernel_rfl
  have cr : Try.prog.cellsOf 53 = 10 := by kernel_rfl
  have cb : Try.prog.cellsOf 4 = 1 := by kernel_rfl
  have hl : cs.toList.length = 21 := by rw [Array.length_toList, hsz, ct]
  obtain ⟨o, a, b, c, d, e, f, g, h, i, j, a1, b1, c1, d1, e1', f1, g1, h1, i1, j1, hxy⟩ := list21 hl
  have hcs : cs = #[o, a, b, c, d, e, f, g, h, i, j, a1, b1, c1, d1, e1', f1, g1, h1, i1, j1] := by rw [← Array.toArray_toList (xs := cs), hxy]
  subst hcs
  simp only [cr, cb] at e0 e1 e2
  obtain ⟨nb, en, -⟩ := DataW.trod_bool Try.underlying4 e0
  have k1 : DataW.trod enc Try.prog W 0 (fun _ => true) true n 53 [a, b, c, d, e, f, g, h, i, j] = some y1 := by simpa [Value.cells] using e1
  have k2 : DataW.trod enc Try.prog W 0 (fun _ => true) true n 53 [a1, b1, c1, d1, e1', f1, g1, h1, i1, j1] = some y2 := by simpa [Value.cells] using e2
  obtain ⟨n1, w0, w1, w2, w3, n2, x0, x1, x2, x3, g1', ⟨u1, u2, u3, u4⟩, ⟨p1, p2, p3, p4⟩⟩ := cells_rat rfl k1
  obtain ⟨n3, w0', w1', w2', w3', n4, x0', x1', x2', x3', g2', ⟨q1, q2, q3, q4⟩, ⟨r1, r2, r3, r4⟩⟩ := cells_rat rfl k2
  simp [Value.cells] at en
  subst en
  cases g1'
  cases g2'
  exact kv_raw nb n1 n2 n3 n4 u1 u2 u3 u4 p1 p2 p3 p4 q1 q2 q3 q4 r1 r2 r3 r4
end Go.Proofs.Ytncmmbacoknefaa
