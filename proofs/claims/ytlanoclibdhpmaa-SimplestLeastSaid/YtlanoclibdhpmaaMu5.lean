/- Several texts in one: Qa, Ql, Qb, CdX, Qc, Tp, CdT, Tr, Rw, Spl, Sq, CdL4, L4, Hi. -/
import Derived.Test.YtlanoclibdhpmaaProg
import Derived.Test.YtlanoclibdhpmaaMu2
import Derived.Test.YtlanoclibdhpmaaMu4

/- Qa: What calls of the program's ratio give. -/
namespace Go.Proofs.Ytlanoclibdhpmaa
open Go Go.RowKit Sx
set_option linter.unusedVariables false
set_option linter.unusedSimpArgs false
theorem small_plain {m : Int} (h : A4 m) : m < ((2 ^ 127 : Nat) : Int) ↔ lb3 m = 0 ∧ lb2 m = 0 ∧ (lb1 m).fdiv 9223372036854775808 = 0 := by
  have e := mv_me h
  have h0 := lb0_in m
  have h1 := lb1_in m
  have h2 := lb2_in m
  have h3 := lb3_in m
  rw [Int.fdiv_eq_ediv_of_nonneg _ (by decide)]
  rw [show ((2 ^ 127 : Nat) : Int) = 170141183460469231731687303715884105728 by decide]
  unfold MV at e
  unfold U64 at *
  generalize lb0 m = a at *
  generalize lb1 m = b at *
  generalize lb2 m = c at *
  generalize lb3 m = d at *
  clear h
  omega
theorem gx_small {z : Int} (h : Fits z) (W : World) : Gives Try.prog 56 [WX z] W (· = .bool (decide (ab z < ((2 ^ 127 : Nat) : Int)))) := by
  have e := small_plain (m := ab z) ⟨ab_nonneg z, (fits_lt z).1 h⟩
  have hb := lb1_in (ab z)
  have sh : ∀ a : Int, Int.fdiv a (2 ^ 63) = a.fdiv 9223372036854775808 := fun a => rfl
  refine gives_known en_ratio_small ?_
  rw [show decide (ab z < ((2 ^ 127 : Nat) : Int)) = (decide (lb3 (ab z) = 0) && (decide (lb2 (ab z) = 0) && decide ((lb1 (ab z)).fdiv 9223372036854775808 = 0))) by rw [Bool.eq_iff_iff, decide_eq_true_iff, e]; simp]
  clear e h
  refine known_of (enter Try.func56 ratio_small.ok (args := [WX z]) (by simp) ?_)
  repeat' (first | simp (disch := omega) only [sxE, ratio_small.E, Nat.reduceAdd, Nat.reduceEqDiff, Nat.reduceMul, Nat.reduceSub, Int.reduceAdd, Int.reduceSub, Int.reduceMul, Int.reduceNeg, Int.reduceLT, Int.reduceLE, Int.reduceEq, Int.reduceToNat, ↓reduceIte, Int.reducePow, Nat.reduceLeDiff, Nat.reduceLT, ne_eq, eq_self, List.length_cons, List.length_nil, qxE] | ((with_reducible first | apply cond_beq | apply gd_beq) <;> (intro hc; first | simp only [beq_iff_eq.2 hc] | simp only [beq_eq_false_iff_ne.2 hc] | skip)) | ((with_reducible first | apply cond_dec | apply gd_dec) <;> (intro hc; first | simp only [decide_eq_true hc] | simp only [decide_eq_false hc] | skip)) | ((with_reducible first | apply cond_of | apply gd_of) <;> (intro hc; try simp only [hc])))
  all_goals (refine vb ?_; rw [Bool.eq_iff_iff]; simp_all)
def gcF (x : Int × Int) : St := ⟨3, [(2, .p 0 0), (3, .p 1 0), (4, .p 2 0)], [(0, wc x.1), (1, wc x.2), (2, [.bool false, .int .u64 0, .int .u64 0, .int .u64 0, .int .u64 0])], ext0⟩
set_option maxRecDepth 100000 in
theorem gx_divisor {z y : Int} (h : Fits z) (h' : Fits y) (W : World) : Gives Try.prog 54 [WX z, WX y] W (· = WX (gc z y)) := by
  refine gives_known en_ratio_divisor ?_
  rw [← gc_abs]
  have f1 : Fits (ab z) := fits_le h (by rw [ab_ab]; exact Int.le_refl _)
  have f2 : Fits (ab y) := fits_le h' (by rw [ab_ab]; exact Int.le_refl _)
  have n1 := ab_nonneg z
  have n2 := ab_nonneg y
  have g1 := sg_ab z
  have g2 := sg_ab y
  have a1 := ab_ab z
  have a2 := ab_ab y
  clear h h'
  refine known_of (enter Try.func54 ratio_divisor.ok (args := [WX z, WX y]) (by simp) ?_)
  repeat' (first | simp (disch := omega) only [sxE, ratio_divisor.E, Nat.reduceAdd, Nat.reduceEqDiff, Nat.reduceMul, Nat.reduceSub, Int.reduceAdd, Int.reduceSub, Int.reduceMul, Int.reduceNeg, Int.reduceLT, Int.reduceLE, Int.reduceEq, Int.reduceToNat, ↓reduceIte, Int.reducePow, Nat.reduceLeDiff, Nat.reduceLT, ne_eq, eq_self, List.length_cons, List.length_nil, qxE])
  rw [ratio_divisor.p2_l]
  refine LX_inv gcF (fun x => 0 ≤ x.1 ∧ 0 ≤ x.2 ∧ Fits x.1 ∧ Fits x.2 ∧ gc x.1 x.2 = gc (ab z) (ab y)) (fun x => x.2.toNat) ?round (ab z, ab y) ⟨n1, n2, f1, f2, rfl⟩ ?start
  case start =>
    unfold gcF wc
    dsimp only
    rw [g1, g2, a1, a2]
    simp (disch := omega) only [sxE, ratio_divisor.E, Nat.reduceAdd, Nat.reduceEqDiff, Nat.reduceMul, Nat.reduceSub, Int.reduceAdd, Int.reduceSub, Int.reduceMul, Int.reduceNeg, Int.reduceLT, Int.reduceLE, Int.reduceEq, Int.reduceToNat, ↓reduceIte, Int.reducePow, Nat.reduceLeDiff, Nat.reduceLT, ne_eq, eq_self, List.length_cons, List.length_nil]
  case round =>
    rintro ⟨x, w⟩ ⟨h1, h2, h3, h4, h5⟩
    dsimp only at h1 h2 h3 h4 h5 ⊢
    rw [← h5]
    clear h5 f1 f2 n1 n2 g1 g2 a1 a2
    have hcm := cm_zero w
    unfold gcF wc
    dsimp only
    by_cases hw : w = 0
    · subst hw
      rw [gc_zero x h1]
      have hc0 : cm 0 0 = 0 := rfl
      repeat' (first | simp (disch := omega) only [sxE, ratio_divisor.E, Nat.reduceAdd, Nat.reduceEqDiff, Nat.reduceMul, Nat.reduceSub, Int.reduceAdd, Int.reduceSub, Int.reduceMul, Int.reduceNeg, Int.reduceLT, Int.reduceLE, Int.reduceEq, Int.reduceToNat, ↓reduceIte, Int.reducePow, Nat.reduceLeDiff, Nat.reduceLT, ne_eq, eq_self, List.length_cons, List.length_nil, qxE, hc0] | (with_reducible refine Sx.call_at (f := 52) (fun W hW => gx_sign h4 W) ?_))
    · have hc0 : cm w 0 ≠ 0 := by rw [hcm]; (repeat' split) <;> omega
      have hq := fits_emod (z := x) h4 hw
      have hm0 := Int.emod_nonneg x hw
      have hm1 := Int.emod_lt_of_pos x (show 0 < w by omega)
      have hgs := gc_step h1 (show 0 < w by omega)
      clear hcm
      repeat' (first | simp (disch := omega) only [sxE, ratio_divisor.E, Nat.reduceAdd, Nat.reduceEqDiff, Nat.reduceMul, Nat.reduceSub, Int.reduceAdd, Int.reduceSub, Int.reduceMul, Int.reduceNeg, Int.reduceLT, Int.reduceLE, Int.reduceEq, Int.reduceToNat, ↓reduceIte, Int.reducePow, Nat.reduceLeDiff, Nat.reduceLT, ne_eq, eq_self, List.length_cons, List.length_nil, qxE] | (with_reducible refine Sx.call_at (f := 52) (fun W hW => gx_sign h4 W) ?_) | (with_reducible refine Sx.call_at (f := 55) (fun W hW => gx_divmod h3 h4 hw W) ?_))
      exact ⟨(w, x % w), ⟨h2, hm0, h4, hq, hgs⟩, by dsimp only; omega, by repeat' (first | (with_reducible rfl) | (exact Or.inl rfl) | apply And.intro)⟩
theorem gc_le_ab (x y : Int) : gc x y ≤ ab x ∨ gc x y ≤ ab y := by
  by_cases h : y = 0
  · left; subst h; rw [← gc_abs]; rw [show ab 0 = 0 from rfl, gc_zero _ (ab_nonneg x)]; exact Int.le_refl _
  · right
    rw [← gc_abs]
    exact gc_le (by have := ab_nonneg y; have := ab_zero_iff (z := y); omega)
theorem fits_gc {x y : Int} (h : Fits x) (h' : Fits y) : Fits (gc x y) := by
  rcases gc_le_ab x y with e | e
  · exact fits_le h (by rw [ab_pos (gc_nonneg x y)]; exact e)
  · exact fits_le h' (by rw [ab_pos (gc_nonneg x y)]; exact e)
theorem fits_one : Fits 1 := rfl
theorem cm_pos (z : Int) : 0 < cm z 0 ↔ 0 < z := by rw [cm_zero]; (repeat' split) <;> omega
theorem i64_one : I64 1 := ⟨by decide, by decide⟩
set_option maxRecDepth 100000 in
theorem gx_rvalid {p q : Int} (h : Fits p) (h' : Fits q) (W : World) : Gives Try.prog 21 [RX p q] W (· = .bool (rok true p q)) := by
  have hg := fits_gc h h'
  refine gives_known en_ratio_Valid ?_
  have hcm := cm_pos q
  refine known_of (enter Try.func21 ratio_Valid.ok (args := [RX p q]) (by simp) ?_)
  repeat' (first | simp (disch := omega) only [sxE, ratio_Valid.E, Nat.reduceAdd, Nat.reduceEqDiff, Nat.reduceMul, Nat.reduceSub, Int.reduceAdd, Int.reduceSub, Int.reduceMul, Int.reduceNeg, Int.reduceLT, Int.reduceLE, Int.reduceEq, Int.reduceToNat, ↓reduceIte, Int.reducePow, Nat.reduceLeDiff, Nat.reduceLT, ne_eq, eq_self, List.length_cons, List.length_nil, qxE] | (with_reducible refine Sx.call_at (f := 51) (fun W hW => gx_valid h W) ?_) | (with_reducible refine Sx.call_at (f := 51) (fun W hW => gx_valid h' W) ?_) | (with_reducible refine Sx.call_at (f := 52) (fun W hW => gx_sign h' W) ?_) | (with_reducible refine Sx.call_at (f := 56) (fun W hW => gx_small h W) ?_) | (with_reducible refine Sx.call_at (f := 56) (fun W hW => gx_small h' W) ?_) | (with_reducible refine Sx.call_at (f := 54) (fun W hW => gx_divisor h h' W) ?_) | (with_reducible refine Sx.call_at (f := 60) (fun W hW => gx_of i64_one W) ?_) | ((with_reducible apply Sx.eq_is); (case h => exact fun W => eqx_run hg fits_one W); (case' hk => skip)) | ((with_reducible first | apply cond_beq | apply gd_beq) <;> (intro hc; first | simp only [beq_iff_eq.2 hc] | simp only [beq_eq_false_iff_ne.2 hc] | skip)) | ((with_reducible first | apply cond_dec | apply gd_dec) <;> (intro hc; first | simp only [decide_eq_true hc] | simp only [decide_eq_false hc] | skip)) | ((with_reducible first | apply cond_of | apply gd_of) <;> (intro hc; try simp only [hc])))
  all_goals (refine vb ?_; unfold rok; rw [Bool.eq_iff_iff]; simp_all <;> (intros; omega))
/-- A raw Ratio with a negative 0. -/
def BadR (v : Value) : Prop := (∃ q, Fits q ∧ v = .agg #[.bool true, .int .u64 0, .int .u64 0, .int .u64 0, .int .u64 0, .bool (sg q), .int .u64 (lb0 (ab q)), .int .u64 (lb1 (ab q)), .int .u64 (lb2 (ab q)), .int .u64 (lb3 (ab q))]) ∨
  (∃ p, Fits p ∧ v = .agg #[.bool (sg p), .int .u64 (lb0 (ab p)), .int .u64 (lb1 (ab p)), .int .u64 (lb2 (ab p)), .int .u64 (lb3 (ab p)), .bool true, .int .u64 0, .int .u64 0, .int .u64 0, .int .u64 0]) ∨
  v = .agg #[.bool true, .int .u64 0, .int .u64 0, .int .u64 0, .int .u64 0, .bool true, .int .u64 0, .int .u64 0, .int .u64 0, .int .u64 0]
theorem gx_rvalid0 {v : Value} (h : BadR v) (W : World) : Gives Try.prog 21 [v] W (· = .bool false) := by
  refine gives_known en_ratio_Valid ?_
  rcases h with ⟨q, h, rfl⟩ | ⟨p, h, rfl⟩ | rfl
  · refine known_of (enter Try.func21 ratio_Valid.ok (args := [_]) (by simp) ?_)
    repeat' (first | simp (disch := omega) only [sxE, ratio_Valid.E, Nat.reduceAdd, Nat.reduceEqDiff, Nat.reduceMul, Nat.reduceSub, Int.reduceAdd, Int.reduceSub, Int.reduceMul, Int.reduceNeg, Int.reduceLT, Int.reduceLE, Int.reduceEq, Int.reduceToNat, ↓reduceIte, Int.reducePow, Nat.reduceLeDiff, Nat.reduceLT, ne_eq, eq_self, List.length_cons, List.length_nil, qxE] | (with_reducible refine Sx.call_at (f := 51) (fun W hW => gx_valid0 W) ?_))
  · refine known_of (enter Try.func21 ratio_Valid.ok (args := [_]) (by simp) ?_)
    repeat' (first | simp (disch := omega) only [sxE, ratio_Valid.E, Nat.reduceAdd, Nat.reduceEqDiff, Nat.reduceMul, Nat.reduceSub, Int.reduceAdd, Int.reduceSub, Int.reduceMul, Int.reduceNeg, Int.reduceLT, Int.reduceLE, Int.reduceEq, Int.reduceToNat, ↓reduceIte, Int.reducePow, Nat.reduceLeDiff, Nat.reduceLT, ne_eq, eq_self, List.length_cons, List.length_nil, qxE] | (with_reducible refine Sx.call_at (f := 51) (fun W hW => gx_valid h W) ?_) | (with_reducible refine Sx.call_at (f := 51) (fun W hW => gx_valid0 W) ?_))
  · refine known_of (enter Try.func21 ratio_Valid.ok (args := [_]) (by simp) ?_)
    repeat' (first | simp (disch := omega) only [sxE, ratio_Valid.E, Nat.reduceAdd, Nat.reduceEqDiff, Nat.reduceMul, Nat.reduceSub, Int.reduceAdd, Int.reduceSub, Int.reduceMul, Int.reduceNeg, Int.reduceLT, Int.reduceLE, Int.reduceEq, Int.reduceToNat, ↓reduceIte, Int.reducePow, Nat.reduceLeDiff, Nat.reduceLT, ne_eq, eq_self, List.length_cons, List.length_nil, qxE] | (with_reducible refine Sx.call_at (f := 51) (fun W hW => gx_valid0 W) ?_))
theorem gx_rof {z : Int} (h : I64 z) (W : World) : Gives Try.prog 36 [.int .i64 z] W (· = RX z 1) := by
  refine gives_known en_ratio_Of ?_
  refine known_of (enter Try.func36 ratio_Of.ok (args := [_]) (by simp) ?_)
  repeat' (first | simp (disch := omega) only [sxE, ratio_Of.E, Nat.reduceAdd, Nat.reduceEqDiff, Nat.reduceMul, Nat.reduceSub, Int.reduceAdd, Int.reduceSub, Int.reduceMul, Int.reduceNeg, Int.reduceLT, Int.reduceLE, Int.reduceEq, Int.reduceToNat, ↓reduceIte, Int.reducePow, Nat.reduceLeDiff, Nat.reduceLT, ne_eq, eq_self, List.length_cons, List.length_nil, qxE] | (with_reducible refine Sx.call_at (f := 60) (fun W hW => gx_of h W) ?_) | (with_reducible refine Sx.call_at (f := 60) (fun W hW => gx_of i64_one W) ?_))
/-- v is a raw Ratio that counts as p / q. -/
def CQ (v : Value) (p q : Int) : Prop := (∃ x y, Fits x ∧ Fits y ∧ v = RX x y ∧ p = qn true x y ∧ q = qd true x y) ∨ (BadR v ∧ p = 0 ∧ q = 1)
theorem CQ.fq {v : Value} {p q : Int} (h : CQ v p q) : Fq p q := by
  rcases h with ⟨x, y, -, -, -, rfl, rfl⟩ | ⟨-, rfl, rfl⟩
  · exact fq_clean _ _ _
  · exact fq_zero
theorem Fq.cq {p q : Int} (h : Fq p q) : CQ (RX p q) p q := by
  have : rok true p q = true := rok_iff.2 ⟨rfl, h⟩
  exact .inl ⟨p, q, h.fp, h.fq, rfl, by unfold qn; rw [this]; rfl, by unfold qd; rw [this]; rfl⟩
set_option maxRecDepth 100000 in
theorem gx_rclean {v : Value} {p q : Int} (h : CQ v p q) (W : World) : Gives Try.prog 61 [v] W (· = RX p q) := by
  refine gives_known en_ratio_clean ?_
  rcases h with ⟨x, y, h1, h2, rfl, rfl, rfl⟩ | ⟨h, rfl, rfl⟩
  · unfold qn qd
    cases hk : rok true x y
    · refine known_of (enter Try.func61 ratio_clean.ok (args := [_]) (by simp) ?_)
      repeat' (first | simp (disch := omega) only [sxE, ratio_clean.E, Nat.reduceAdd, Nat.reduceEqDiff, Nat.reduceMul, Nat.reduceSub, Int.reduceAdd, Int.reduceSub, Int.reduceMul, Int.reduceNeg, Int.reduceLT, Int.reduceLE, Int.reduceEq, Int.reduceToNat, ↓reduceIte, Int.reducePow, Nat.reduceLeDiff, Nat.reduceLT, ne_eq, eq_self, List.length_cons, List.length_nil, qxE, hk] | (with_reducible refine Sx.call_at (f := 21) (fun W hW => gx_rvalid h1 h2 W) ?_) | (with_reducible refine Sx.call_at (f := 36) (fun W hW => gx_rof i64_zero W) ?_))
    · refine known_of (enter Try.func61 ratio_clean.ok (args := [_]) (by simp) ?_)
      repeat' (first | simp (disch := omega) only [sxE, ratio_clean.E, Nat.reduceAdd, Nat.reduceEqDiff, Nat.reduceMul, Nat.reduceSub, Int.reduceAdd, Int.reduceSub, Int.reduceMul, Int.reduceNeg, Int.reduceLT, Int.reduceLE, Int.reduceEq, Int.reduceToNat, ↓reduceIte, Int.reducePow, Nat.reduceLeDiff, Nat.reduceLT, ne_eq, eq_self, List.length_cons, List.length_nil, qxE, hk] | (with_reducible refine Sx.call_at (f := 21) (fun W hW => gx_rvalid h1 h2 W) ?_) | (with_reducible refine Sx.call_at (f := 36) (fun W hW => gx_rof i64_zero W) ?_))
  · have hv := fun W => gx_rvalid0 h W
    rcases h with ⟨q, h, rfl⟩ | ⟨p, h, rfl⟩ | rfl
    · refine known_of (enter Try.func61 ratio_clean.ok (args := [_]) (by simp) ?_)
      repeat' (first | simp (disch := omega) only [sxE, ratio_clean.E, Nat.reduceAdd, Nat.reduceEqDiff, Nat.reduceMul, Nat.reduceSub, Int.reduceAdd, Int.reduceSub, Int.reduceMul, Int.reduceNeg, Int.reduceLT, Int.reduceLE, Int.reduceEq, Int.reduceToNat, ↓reduceIte, Int.reducePow, Nat.reduceLeDiff, Nat.reduceLT, ne_eq, eq_self, List.length_cons, List.length_nil, qxE] | (with_reducible refine Sx.call_at (f := 21) (fun W hW => hv W) ?_) | (with_reducible refine Sx.call_at (f := 36) (fun W hW => gx_rof i64_zero W) ?_))
    · refine known_of (enter Try.func61 ratio_clean.ok (args := [_]) (by simp) ?_)
      repeat' (first | simp (disch := omega) only [sxE, ratio_clean.E, Nat.reduceAdd, Nat.reduceEqDiff, Nat.reduceMul, Nat.reduceSub, Int.reduceAdd, Int.reduceSub, Int.reduceMul, Int.reduceNeg, Int.reduceLT, Int.reduceLE, Int.reduceEq, Int.reduceToNat, ↓reduceIte, Int.reducePow, Nat.reduceLeDiff, Nat.reduceLT, ne_eq, eq_self, List.length_cons, List.length_nil, qxE] | (with_reducible refine Sx.call_at (f := 21) (fun W hW => hv W) ?_) | (with_reducible refine Sx.call_at (f := 36) (fun W hW => gx_rof i64_zero W) ?_))
    · refine known_of (enter Try.func61 ratio_clean.ok (args := [_]) (by simp) ?_)
      repeat' (first | simp (disch := omega) only [sxE, ratio_clean.E, Nat.reduceAdd, Nat.reduceEqDiff, Nat.reduceMul, Nat.reduceSub, Int.reduceAdd, Int.reduceSub, Int.reduceMul, Int.reduceNeg, Int.reduceLT, Int.reduceLE, Int.reduceEq, Int.reduceToNat, ↓reduceIte, Int.reducePow, Nat.reduceLeDiff, Nat.reduceLT, ne_eq, eq_self, List.length_cons, List.length_nil, qxE] | (with_reducible refine Sx.call_at (f := 21) (fun W hW => hv W) ?_) | (with_reducible refine Sx.call_at (f := 36) (fun W hW => gx_rof i64_zero W) ?_))
end Go.Proofs.Ytlanoclibdhpmaa

/- Ql: Plain laws of fractions. -/
namespace Go.Proofs.Ytlanoclibdhpmaa
set_option linter.unusedVariables false
set_option linter.unusedSimpArgs false
theorem km_le (x y : Int) : cm x y ≤ 0 ↔ x ≤ y := by unfold cm; (repeat' split) <;> omega
theorem km_gt (x y : Int) : 0 < cm x y ↔ y < x := by unfold cm; (repeat' split) <;> omega
theorem km_lt (x y : Int) : cm x y < 0 ↔ x < y := by unfold cm; (repeat' split) <;> omega
theorem km_ge0 (x y : Int) : 0 ≤ cm x y ↔ y ≤ x := by unfold cm; (repeat' split) <;> omega
theorem km_eq (x y : Int) : cm x y = 0 ↔ x = y := by unfold cm; (repeat' split) <;> omega
/-- Which of two fractions is greater. -/
def cq (p q p' q' : Int) : Int := cm (p * q') (p' * q)
theorem mul_le_cancel {a x y : Int} (ha : 0 < a) (h : a * x ≤ a * y) : x ≤ y := Int.le_of_mul_le_mul_left h ha
theorem fl_le {x y : Int} (hy : 0 < y) : x / y * y ≤ x ∧ x < x / y * y + y := by
  have h1 := Int.mul_ediv_add_emod x y
  have h2 := Int.emod_nonneg x (Int.ne_of_gt hy)
  have h3 := Int.emod_lt_of_pos x hy
  rw [Int.mul_comm] at h1
  omega
theorem le_fl {x y z : Int} (hy : 0 < y) (h : z * y ≤ x) : z ≤ x / y := (Int.le_ediv_iff_mul_le hy).2 h
end Go.Proofs.Ytlanoclibdhpmaa

/- Qb: What calls of the program's ratio give: Compare, Floor, Ceil, At, Make. -/
namespace Go.Proofs.Ytlanoclibdhpmaa
open Go Go.RowKit Sx
set_option linter.unusedVariables false
set_option linter.unusedSimpArgs false
theorem CQ.ten {v : Value} {p q : Int} (h : CQ v p q) : ∃ c0 c1 c2 c3 c4 c5 c6 c7 c8 c9, v = .agg #[c0, c1, c2, c3, c4, c5, c6, c7, c8, c9] := by
  rcases h with ⟨x, y, -, -, rfl, -, -⟩ | ⟨⟨q, -, rfl⟩ | ⟨p, -, rfl⟩ | rfl, -, -⟩ <;> exact ⟨_, _, _, _, _, _, _, _, _, _, rfl⟩
theorem gx_product {x y : Int} (h : Fits x) (h' : Fits y) (hf : Fits (x * y)) (W : World) : Gives Try.prog 63 [WX x, WX y] W (· = WX (x * y)) := by
  refine gives_known en_ratio_product ?_
  refine known_of (enter Try.func63 ratio_product.ok (args := [_, _]) (by simp) ?_)
  repeat' (first | simp (disch := omega) only [sxE, ratio_product.E, Nat.reduceAdd, Nat.reduceEqDiff, Nat.reduceMul, Nat.reduceSub, Int.reduceAdd, Int.reduceSub, Int.reduceMul, Int.reduceNeg, Int.reduceLT, Int.reduceLE, Int.reduceEq, Int.reduceToNat, ↓reduceIte, Int.reducePow, Nat.reduceLeDiff, Nat.reduceLT, ne_eq, eq_self, List.length_cons, List.length_nil, qxE] | (with_reducible refine Sx.call_at (f := 91) (fun W hW => gx_mul h h' hf W) ?_))
theorem Fq.fm {p q p' q' : Int} (h : Fq p q) (h' : Fq p' q') : Fits (p * q') := (bd_mul h.bp h'.bq).fits
theorem gx_rcompare {v v' : Value} {p q p' q' : Int} (h : CQ v p q) (h' : CQ v' p' q') (W : World) : Gives Try.prog 30 [v, v'] W (· = .int .i64 (cq p q p' q')) := by
  obtain ⟨c0, c1, c2, c3, c4, c5, c6, c7, c8, c9, rfl⟩ := h.ten
  obtain ⟨d0, d1, d2, d3, d4, d5, d6, d7, d8, d9, rfl⟩ := h'.ten
  have f := h.fq
  have f' := h'.fq
  have m1 := f.fm f'
  have m2 := f'.fm f
  refine gives_known en_ratio_Compare ?_
  refine known_of (enter Try.func30 ratio_Compare.ok (args := [_, _]) (by simp) ?_)
  repeat' (first | simp (disch := omega) only [sxE, ratio_Compare.E, Nat.reduceAdd, Nat.reduceEqDiff, Nat.reduceMul, Nat.reduceSub, Int.reduceAdd, Int.reduceSub, Int.reduceMul, Int.reduceNeg, Int.reduceLT, Int.reduceLE, Int.reduceEq, Int.reduceToNat, ↓reduceIte, Int.reducePow, Nat.reduceLeDiff, Nat.reduceLT, ne_eq, eq_self, List.length_cons, List.length_nil, qxE] | (with_reducible refine Sx.call_at (f := 61) (fun W hW => gx_rclean h W) ?_) | (with_reducible refine Sx.call_at (f := 61) (fun W hW => gx_rclean h' W) ?_) | (with_reducible refine Sx.call_at (f := 63) (fun W hW => gx_product f.fp f'.fq m1 W) ?_) | (with_reducible refine Sx.call_at (f := 63) (fun W hW => gx_product f'.fp f.fq m2 W) ?_) | (with_reducible refine Sx.call_at (f := 70) (fun W hW => gx_compare m1 m2 W) ?_))
  rfl
theorem Fq.neg {p q : Int} (h : Fq p q) : Fq (-p) q := ⟨h.pos, bd_neg h.bp, h.bq, by rw [gc_neg]; exact h.gc⟩
/-- A raw Wide that counts as z; b: it is valid. -/
def RW (v : Value) (b : Bool) (z : Int) : Prop := (b = true ∧ v = WX z ∧ Fits z) ∨ (b = false ∧ v = NZ ∧ z = 0)
theorem RW.five {v : Value} {b : Bool} {z : Int} (h : RW v b z) : ∃ c0 c1 c2 c3 c4, v = .agg #[c0, c1, c2, c3, c4] := by
  rcases h with ⟨-, rfl, -⟩ | ⟨-, rfl, -⟩ <;> exact ⟨_, _, _, _, _, rfl⟩
theorem RW.is {v : Value} {b : Bool} {z : Int} (h : RW v b z) : IsW v z := by
  rcases h with ⟨-, rfl, h⟩ | ⟨-, rfl, rfl⟩
  · exact h.is
  · exact nz_is
theorem RW.fits {v : Value} {b : Bool} {z : Int} (h : RW v b z) : Fits z := by
  rcases h with ⟨-, rfl, h⟩ | ⟨-, rfl, rfl⟩
  · exact h
  · exact fits_zero
theorem Fits.rw {z : Int} (h : Fits z) : RW (WX z) true z := .inl ⟨rfl, rfl, h⟩
theorem ry_valid {v : Value} {b : Bool} {z : Int} (h : RW v b z) (W : World) : Gives Try.prog 57 [v] W (· = .bool b) := by
  rcases h with ⟨rfl, rfl, h⟩ | ⟨rfl, rfl, rfl⟩
  · exact rx_valid h W
  · exact rx_valid0 W
/-- What Make returns. -/
def mkV (b : Bool) (z y : Int) : Value := if mok b z y then .tuple #[RX (mn z y) (mD z y), .bool true] else .tuple #[RX 0 0, .bool false]
theorem cm_zero_iff (z : Int) : cm z 0 = 0 ↔ z = 0 := by rw [cm_zero]; (repeat' split) <;> omega
theorem fits_neg {z : Int} (h : Fits z) : Fits (-z) := fits_le h (by rw [ab_neg]; exact Int.le_refl _)
theorem fits_mn {z y : Int} (h : Fits z) (hy : y ≠ 0) : Fits (mn z y) := by
  unfold mn
  split
  · exact fits_ediv (fits_neg h) (by have := gc_pos (x := z) hy; omega)
  · exact fits_ediv h (by have := gc_pos (x := z) hy; omega)
theorem fits_ab {z : Int} (h : Fits z) : Fits (ab z) := fits_le h (by rw [ab_ab]; exact Int.le_refl _)
theorem fits_mD {z y : Int} (h : Fits y) (hy : y ≠ 0) : Fits (mD z y) := fits_ediv (fits_ab h) (by have := gc_pos (x := z) hy; omega)
end Go.Proofs.Ytlanoclibdhpmaa

/- CdX: MADE BY PROGRAM (sxgen.py): the small code of some functions, points of it and their equations. -/
namespace Go.Proofs.Ytlanoclibdhpmaa
open Go Go.RowKit Sx
set_option linter.unusedVariables false
variable (C : Cx) (R L1 L2 L3 L4 : St → Prop)
namespace r03_Compare
def r0 : List G := [(some 2, none, (.box true 10 (.tmp 0))), (some 3, none, (.box true 10 (.tmp 1))), (some 4, none, (.mv (.const (.int .i64 0))))]
def r1 : List G := [(some 9, none, (.ld true 10 (.tmp 2))), (some 10, none, (.call true 65 [(.tmp 9)])), (some 11, none, (.ld true 10 (.tmp 3))), (some 12, none, (.call true 65 [(.tmp 11)]))]
def t1 : List G := [(none, none, (.st true 10 (.tmp 2) (.tmp 10))), (none, none, (.st true 10 (.tmp 3) (.tmp 12)))]
def r2 : List G := [(some 14, none, (.fa 0 (.tmp 2))), (some 15, none, (.ld true 5 (.tmp 14))), (some 16, none, (.fa 5 (.tmp 3))), (some 17, none, (.ld true 5 (.tmp 16))), (some 18, none, (.call false 29 [(.tmp 15), (.tmp 17)])), (some 13, none, (.mv (.tmp 18))), (some 19, none, (.ex (.tmp 13) 0)), (some 20, none, (.ex (.tmp 13) 1)), (some 5, none, (.new zW)), (none, none, (.st true 5 (.tmp 5) (.tmp 19))), (some 6, none, (.mv (.tmp 20)))]
def r3 : List G := [(some 22, none, (.fa 0 (.tmp 3))), (some 23, none, (.ld true 5 (.tmp 22))), (some 24, none, (.fa 5 (.tmp 2))), (some 25, none, (.ld true 5 (.tmp 24))), (some 26, none, (.call false 29 [(.tmp 23), (.tmp 25)])), (some 21, none, (.mv (.tmp 26))), (some 27, none, (.ex (.tmp 21) 0)), (some 28, none, (.ex (.tmp 21) 1)), (some 7, none, (.new zW)), (none, none, (.st true 5 (.tmp 7) (.tmp 27))), (some 8, none, (.mv (.tmp 28)))]
def r4 : List G := [(some 29, none, (.ld true 5 (.tmp 5))), (some 30, none, (.ld true 5 (.tmp 7))), (some 31, none, (.call false 33 [(.tmp 29), (.tmp 30)])), (some 4, none, (.mv (.tmp 31)))]
def c : MC := (.seq (.reg r0 (some [2, 3])) (.seq (.dreg r1 t1 (some [2, 3])) (.seq (.reg r2 (some [2, 3, 5])) (.seq (.reg r3 (some [5, 7])) (.seq (.reg r4 (some [4])) .ret)))))
def ann : Ann := [(0, (some [2, 3], 0, [], [], [])), (1, (some [2, 3], 4, [], [(0, 0), (1, 0), (2, 0), (3, 0)], [])), (2, (some [2, 3, 5], 0, [], [], [])), (3, (some [5, 7], 0, [], [], [])), (4, (some [4], 0, [], [], []))]
theorem ok : compF Try.prog Try.f28 ann = some (32, c, [(4, none)]) := by kernel_rfl
def p1 (S : St) : Prop := ops C r4 (kq [4] R) S
def p2 (S : St) : Prop := ops C r3 (kq [5, 7] (p1 C R)) S
def p3 (S : St) : Prop := ops C r2 (kq [2, 3, 5] (p2 C R)) S
def p4 (S : St) : Prop := ops C r1 (ops C t1 (kq [2, 3] (p3 C R))) S
def p5 (S : St) : Prop := ops C r0 (kq [2, 3] (p4 C R)) S
theorem s (S : St) : X C c (retK R) S = p5 C R S := by kernel_rfl
theorem E : type_of% @r4.eq_1 ∧ type_of% @p1.eq_1 ∧ type_of% @r3.eq_1 ∧ type_of% @p2.eq_1 ∧ type_of% @r2.eq_1 ∧ type_of% @p3.eq_1 ∧ type_of% @r1.eq_1 ∧ type_of% @t1.eq_1 ∧ type_of% @p4.eq_1 ∧ type_of% @r0.eq_1 ∧ type_of% @p5.eq_1 ∧ type_of% @s := ⟨@r4.eq_1, @p1.eq_1, @r3.eq_1, @p2.eq_1, @r2.eq_1, @p3.eq_1, @r1.eq_1, @t1.eq_1, @p4.eq_1, @r0.eq_1, @p5.eq_1, @s⟩
end r03_Compare
namespace r03_Make
def r0 : List G := [(some 2, none, (.box true 5 (.tmp 0))), (some 3, none, (.box true 5 (.tmp 1))), (some 4, none, (.new zR)), (some 5, none, (.mv (.const (.bool false))))]
def r1 : List G := [(some 14, none, (.ld true 5 (.tmp 2))), (some 15, none, (.call false 57 [(.tmp 14)])), (some 16, none, (.un .not (.tmp 15))), (some 17, none, (.mv (.tmp 16))), (some 18, some (17, false), (.ld true 5 (.tmp 3))), (some 19, some (17, false), (.call false 57 [(.tmp 18)])), (some 20, some (17, false), (.un .not (.tmp 19))), (some 21, none, (.pick (.tmp 17) (.const (.bool true)) (.tmp 20))), (some 22, none, (.mv (.tmp 21))), (some 23, some (22, false), (.ld true 5 (.tmp 3))), (some 24, some (22, false), (.call false 47 [(.tmp 23)])), (some 25, some (22, false), (.bin .eql (.tmp 24) (.const (.int .i64 0)))), (some 26, none, (.pick (.tmp 22) (.const (.bool true)) (.tmp 25)))]
def r2 : List G := [(some 27, none, (.bd zR [])), (none, none, (.st true 10 (.tmp 4) (.tmp 27))), (some 5, none, (.mv (.const (.bool false))))]
def r3 : List G := [(some 28, none, (.ld true 5 (.tmp 2))), (some 29, none, (.call true 59 [(.tmp 28)])), (some 30, none, (.ld true 5 (.tmp 3))), (some 31, none, (.call true 59 [(.tmp 30)])), (some 32, none, (.call true 58 [(.tmp 29), (.tmp 31)]))]
def t3 : List G := [(some 6, none, (.new zW)), (none, none, (.st true 5 (.tmp 6) (.tmp 32)))]
def r4 : List G := [(some 34, none, (.ld true 5 (.tmp 2))), (some 35, none, (.call true 59 [(.tmp 34)])), (some 36, none, (.ld true 5 (.tmp 6))), (some 37, none, (.call true 46 [(.tmp 35), (.tmp 36)])), (some 33, none, (.mv (.tmp 37))), (some 38, none, (.ex (.tmp 33) 0)), (some 39, none, (.ex (.tmp 33) 1)), (some 40, none, (.ex (.tmp 33) 2))]
def t4 : List G := [(some 7, none, (.new zW)), (some 8, none, (.new zW)), (none, none, (.st true 5 (.tmp 7) (.tmp 38))), (none, none, (.st true 5 (.tmp 8) (.tmp 39))), (some 9, none, (.mv (.tmp 40)))]
def r5 : List G := [(some 42, none, (.ld true 5 (.tmp 3))), (some 43, none, (.call true 59 [(.tmp 42)])), (some 44, none, (.ld true 5 (.tmp 6))), (some 45, none, (.call true 46 [(.tmp 43), (.tmp 44)])), (some 41, none, (.mv (.tmp 45))), (some 46, none, (.ex (.tmp 41) 0)), (some 47, none, (.ex (.tmp 41) 1)), (some 48, none, (.ex (.tmp 41) 2))]
def t5 : List G := [(some 10, none, (.new zW)), (some 11, none, (.new zW)), (none, none, (.st true 5 (.tmp 10) (.tmp 46))), (none, none, (.st true 5 (.tmp 11) (.tmp 47))), (some 12, none, (.mv (.tmp 48)))]
def r6 : List G := [(some 49, none, (.fa 0 (.tmp 2))), (some 50, none, (.ld false 1 (.tmp 49))), (some 51, none, (.fa 0 (.tmp 3))), (some 52, none, (.ld false 1 (.tmp 51))), (some 53, none, (.bq true (.tmp 50) (.tmp 52)))]
def r7 : List G := [(some 54, none, (.ld true 5 (.tmp 7))), (some 55, none, (.call false 48 [(.tmp 54)])), (none, none, (.st true 5 (.tmp 7) (.tmp 55)))]
def r8 : List G := [(some 56, none, (.ld true 5 (.tmp 7))), (some 57, none, (.ld true 5 (.tmp 10))), (some 58, none, (.bd zR [(0, 5, (.tmp 56)), (5, 5, (.tmp 57))])), (some 13, none, (.new zR)), (none, none, (.st true 10 (.tmp 13) (.tmp 58)))]
def r9 : List G := [(some 59, none, (.ld true 10 (.tmp 13))), (some 60, none, (.call false 42 [(.tmp 59)])), (some 61, none, (.un .not (.tmp 60)))]
def r10 : List G := [(some 62, none, (.bd zR [])), (none, none, (.st true 10 (.tmp 4) (.tmp 62))), (some 5, none, (.mv (.const (.bool false))))]
def r11 : List G := [(some 63, none, (.ld true 10 (.tmp 13))), (none, none, (.st true 10 (.tmp 4) (.tmp 63))), (some 5, none, (.mv (.const (.bool true))))]
def c : MC := (.seq (.reg r0 (some [2, 3, 4])) (.seq (.seq (.reg r1 (some [2, 3, 4, 26])) (.cond (.tmp 26) (.seq (.reg r2 (some [4, 5])) .ret) .skip)) (.seq (.dreg r3 t3 (some [2, 3, 4, 6])) (.seq (.dreg r4 t4 (some [2, 3, 4, 6, 7])) (.seq (.dreg r5 t5 (some [2, 3, 4, 7, 10])) (.seq (.seq (.reg r6 (some [4, 7, 10, 53])) (.cond (.tmp 53) (.reg r7 (some [4, 7, 10])) .skip)) (.seq (.reg r8 (some [4, 13])) (.seq (.seq (.reg r9 (some [4, 13, 61])) (.cond (.tmp 61) (.seq (.reg r10 (some [4, 5])) .ret) .skip)) (.seq (.reg r11 (some [4, 5])) .ret)))))))))
def ann : Ann := [(0, (some [2, 3, 4], 0, [], [], [])), (1, (some [2, 3, 4, 26], 0, [], [], [])), (2, (some [4, 5], 0, [], [], [])), (3, (some [2, 3, 4, 6], 6, [], [(0, 0), (1, 0), (2, 0), (3, 0), (4, 0)], [5])), (4, (some [2, 3, 4, 6, 7], 10, [6, 7], [(0, 0), (1, 0), (2, 0), (3, 0), (4, 0), (5, 0), (6, 2), (7, 2)], [8, 9])), (5, (some [2, 3, 4, 7, 10], 10, [6, 7], [(0, 0), (1, 0), (2, 0), (3, 0), (4, 0), (5, 0), (6, 2), (7, 2)], [8, 9])), (6, (some [4, 7, 10, 53], 0, [], [], [])), (7, (some [4, 7, 10], 0, [], [], [])), (8, (some [4, 13], 0, [], [], [])), (9, (some [4, 13, 61], 0, [], [], [])), (10, (some [4, 5], 0, [], [], [])), (11, (some [4, 5], 0, [], [], []))]
theorem ok : compF Try.prog Try.f20 ann = some (64, c, [(4, some (true, 10)), (5, none)]) := by kernel_rfl
def p1 (S : St) : Prop := ops C r11 (kq [4, 5] R) S
def p3 (S : St) : Prop := ops C r10 (kq [4, 5] R) S
def p2 (S : St) : Prop := condX (S.ev (.tmp 61)) (p3 C R) (p1 C R) S
def p4 (S : St) : Prop := ops C r9 (kq [4, 13, 61] (p2 C R)) S
def p5 (S : St) : Prop := ops C r8 (kq [4, 13] (p4 C R)) S
def p7 (S : St) : Prop := ops C r7 (kq [4, 7, 10] (p5 C R)) S
def p6 (S : St) : Prop := condX (S.ev (.tmp 53)) (p7 C R) (p5 C R) S
def p8 (S : St) : Prop := ops C r6 (kq [4, 7, 10, 53] (p6 C R)) S
def p9 (S : St) : Prop := ops C r5 (ops C t5 (kq [2, 3, 4, 7, 10] (p8 C R))) S
def p10 (S : St) : Prop := ops C r4 (ops C t4 (kq [2, 3, 4, 6, 7] (p9 C R))) S
def p11 (S : St) : Prop := ops C r3 (ops C t3 (kq [2, 3, 4, 6] (p10 C R))) S
def p13 (S : St) : Prop := ops C r2 (kq [4, 5] R) S
def p12 (S : St) : Prop := condX (S.ev (.tmp 26)) (p13 C R) (p11 C R) S
def p14 (S : St) : Prop := ops C r1 (kq [2, 3, 4, 26] (p12 C R)) S
def p15 (S : St) : Prop := ops C r0 (kq [2, 3, 4] (p14 C R)) S
theorem s (S : St) : X C c (retK R) S = p15 C R S := by kernel_rfl
theorem E : type_of% @r11.eq_1 ∧ type_of% @p1.eq_1 ∧ type_of% @r10.eq_1 ∧ type_of% @p3.eq_1 ∧ type_of% @p2.eq_1 ∧ type_of% @r9.eq_1 ∧ type_of% @p4.eq_1 ∧ type_of% @r8.eq_1 ∧ type_of% @p5.eq_1 ∧ type_of% @r7.eq_1 ∧ type_of% @p7.eq_1 ∧ type_of% @p6.eq_1 ∧ type_of% @r6.eq_1 ∧ type_of% @p8.eq_1 ∧ type_of% @r5.eq_1 ∧ type_of% @t5.eq_1 ∧ type_of% @p9.eq_1 ∧ type_of% @r4.eq_1 ∧ type_of% @t4.eq_1 ∧ type_of% @p10.eq_1 ∧ type_of% @r3.eq_1 ∧ type_of% @t3.eq_1 ∧ type_of% @p11.eq_1 ∧ type_of% @r2.eq_1 ∧ type_of% @p13.eq_1 ∧ type_of% @p12.eq_1 ∧ type_of% @r1.eq_1 ∧ type_of% @p14.eq_1 ∧ type_of% @r0.eq_1 ∧ type_of% @p15.eq_1 ∧ type_of% @s := ⟨@r11.eq_1, @p1.eq_1, @r10.eq_1, @p3.eq_1, @p2.eq_1, @r9.eq_1, @p4.eq_1, @r8.eq_1, @p5.eq_1, @r7.eq_1, @p7.eq_1, @p6.eq_1, @r6.eq_1, @p8.eq_1, @r5.eq_1, @t5.eq_1, @p9.eq_1, @r4.eq_1, @t4.eq_1, @p10.eq_1, @r3.eq_1, @t3.eq_1, @p11.eq_1, @r2.eq_1, @p13.eq_1, @p12.eq_1, @r1.eq_1, @p14.eq_1, @r0.eq_1, @p15.eq_1, @s⟩
end r03_Make
namespace r03_Of
def r0 : List G := [(some 2, none, (.new zR))]
def r1 : List G := [(some 3, none, (.mv (.tmp 0))), (some 4, none, (.call false 16 [(.tmp 3)])), (some 5, none, (.call false 77 [])), (some 6, none, (.bd zR [(0, 5, (.tmp 4)), (5, 5, (.tmp 5))])), (none, none, (.st true 10 (.tmp 2) (.tmp 6)))]
def c : MC := (.seq (.reg r0 (some [0, 2])) (.seq (.reg r1 (some [2])) .ret))
def ann : Ann := [(0, (some [0, 2], 0, [], [], [])), (1, (some [2], 0, [], [], []))]
theorem ok : compF Try.prog Try.f37 ann = some (7, c, [(2, some (true, 10))]) := by kernel_rfl
def p1 (S : St) : Prop := ops C r1 (kq [2] R) S
def p2 (S : St) : Prop := ops C r0 (kq [0, 2] (p1 C R)) S
theorem s (S : St) : X C c (retK R) S = p2 C R S := by kernel_rfl
theorem E : type_of% @r1.eq_1 ∧ type_of% @p1.eq_1 ∧ type_of% @r0.eq_1 ∧ type_of% @p2.eq_1 ∧ type_of% @s := ⟨@r1.eq_1, @p1.eq_1, @r0.eq_1, @p2.eq_1, @s⟩
end r03_Of
namespace r03_Valid
def r0 : List G := [(some 1, none, (.box true 10 (.tmp 0))), (some 2, none, (.mv (.const (.bool false))))]
def r1 : List G := [(some 3, none, (.fa 0 (.tmp 1))), (some 4, none, (.ld true 5 (.tmp 3))), (some 5, none, (.call false 57 [(.tmp 4)])), (some 6, none, (.un .not (.tmp 5))), (some 7, none, (.mv (.tmp 6))), (some 8, some (7, false), (.fa 5 (.tmp 1))), (some 9, some (7, false), (.ld true 5 (.tmp 8))), (some 10, some (7, false), (.call false 57 [(.tmp 9)])), (some 11, some (7, false), (.un .not (.tmp 10))), (some 12, none, (.pick (.tmp 7) (.const (.bool true)) (.tmp 11))), (some 13, none, (.mv (.tmp 12))), (some 14, some (13, false), (.fa 5 (.tmp 1))), (some 15, some (13, false), (.ld true 5 (.tmp 14))), (some 16, some (13, false), (.call false 47 [(.tmp 15)])), (some 17, some (13, false), (.bin .leq (.tmp 16) (.const (.int .i64 0)))), (some 18, none, (.pick (.tmp 13) (.const (.bool true)) (.tmp 17))), (some 19, none, (.mv (.tmp 18))), (some 20, some (19, false), (.fa 0 (.tmp 1))), (some 21, some (19, false), (.ld true 5 (.tmp 20))), (some 22, some (19, false), (.call false 82 [(.tmp 21)])), (some 23, some (19, false), (.un .not (.tmp 22))), (some 24, none, (.pick (.tmp 19) (.const (.bool true)) (.tmp 23))), (some 25, none, (.mv (.tmp 24))), (some 26, some (25, false), (.fa 5 (.tmp 1))), (some 27, some (25, false), (.ld true 5 (.tmp 26))), (some 28, some (25, false), (.call false 82 [(.tmp 27)])), (some 29, some (25, false), (.un .not (.tmp 28))), (some 30, none, (.pick (.tmp 25) (.const (.bool true)) (.tmp 29)))]
def r2 : List G := [(some 2, none, (.mv (.const (.bool false))))]
def r3 : List G := [(some 31, none, (.fa 0 (.tmp 1))), (some 32, none, (.ld true 5 (.tmp 31))), (some 33, none, (.call true 59 [(.tmp 32)])), (some 34, none, (.fa 5 (.tmp 1))), (some 35, none, (.ld true 5 (.tmp 34))), (some 36, none, (.call true 58 [(.tmp 33), (.tmp 35)])), (some 37, none, (.call true 77 [])), (some 38, none, (.eqg false 25 (.tmp 36) (.tmp 37)))]
def t3 : List G := [(some 2, none, (.mv (.tmp 38)))]
def c : MC := (.seq (.reg r0 (some [1])) (.seq (.seq (.reg r1 (some [1, 30])) (.cond (.tmp 30) (.seq (.reg r2 (some [2])) .ret) .skip)) (.seq (.dreg r3 t3 (some [2])) .ret)))
def ann : Ann := [(0, (some [1], 0, [], [], [])), (1, (some [1, 30], 0, [], [], [])), (2, (some [2], 0, [], [], [])), (3, (some [2], 8, [], [(0, 0), (1, 0), (2, 0), (3, 0), (4, 0), (5, 0), (6, 0), (7, 0)], []))]
theorem ok : compF Try.prog Try.f42 ann = some (39, c, [(2, none)]) := by kernel_rfl
def p1 (S : St) : Prop := ops C r3 (ops C t3 (kq [2] R)) S
def p3 (S : St) : Prop := ops C r2 (kq [2] R) S
def p2 (S : St) : Prop := condX (S.ev (.tmp 30)) (p3 C R) (p1 C R) S
def p4 (S : St) : Prop := ops C r1 (kq [1, 30] (p2 C R)) S
def p5 (S : St) : Prop := ops C r0 (kq [1] (p4 C R)) S
theorem s (S : St) : X C c (retK R) S = p5 C R S := by kernel_rfl
theorem E : type_of% @r3.eq_1 ∧ type_of% @t3.eq_1 ∧ type_of% @p1.eq_1 ∧ type_of% @r2.eq_1 ∧ type_of% @p3.eq_1 ∧ type_of% @p2.eq_1 ∧ type_of% @r1.eq_1 ∧ type_of% @p4.eq_1 ∧ type_of% @r0.eq_1 ∧ type_of% @p5.eq_1 ∧ type_of% @s := ⟨@r3.eq_1, @t3.eq_1, @p1.eq_1, @r2.eq_1, @p3.eq_1, @p2.eq_1, @r1.eq_1, @p4.eq_1, @r0.eq_1, @p5.eq_1, @s⟩
end r03_Valid
namespace r03_abs
def r0 : List G := [(some 1, none, (.box true 5 (.tmp 0))), (some 2, none, (.new zW))]
def r1 : List G := [(some 3, none, (.fa 0 (.tmp 1))), (none, none, (.st false 1 (.tmp 3) (.const (.bool false))))]
def r2 : List G := [(some 4, none, (.ld true 5 (.tmp 1))), (none, none, (.st true 5 (.tmp 2) (.tmp 4)))]
def c : MC := (.seq (.reg r0 (some [1, 2])) (.seq (.reg r1 (some [1, 2])) (.seq (.reg r2 (some [2])) .ret)))
def ann : Ann := [(0, (some [1, 2], 0, [], [], [])), (1, (some [1, 2], 0, [], [], [])), (2, (some [2], 0, [], [], []))]
theorem ok : compF Try.prog Try.f59 ann = some (5, c, [(2, some (true, 5))]) := by kernel_rfl
def p1 (S : St) : Prop := ops C r2 (kq [2] R) S
def p2 (S : St) : Prop := ops C r1 (kq [1, 2] (p1 C R)) S
def p3 (S : St) : Prop := ops C r0 (kq [1, 2] (p2 C R)) S
theorem s (S : St) : X C c (retK R) S = p3 C R S := by kernel_rfl
theorem E : type_of% @r2.eq_1 ∧ type_of% @p1.eq_1 ∧ type_of% @r1.eq_1 ∧ type_of% @p2.eq_1 ∧ type_of% @r0.eq_1 ∧ type_of% @p3.eq_1 ∧ type_of% @s := ⟨@r2.eq_1, @p1.eq_1, @r1.eq_1, @p2.eq_1, @r0.eq_1, @p3.eq_1, @s⟩
end r03_abs
namespace r03_clean
def r0 : List G := [(some 1, none, (.box true 10 (.tmp 0))), (some 2, none, (.new zR))]
def r1 : List G := [(some 3, none, (.ld true 10 (.tmp 1))), (some 4, none, (.call false 42 [(.tmp 3)])), (some 5, none, (.un .not (.tmp 4)))]
def r2 : List G := [(some 6, none, (.call false 77 [])), (some 7, none, (.bd zR [(5, 5, (.tmp 6))])), (none, none, (.st true 10 (.tmp 2) (.tmp 7)))]
def r3 : List G := [(some 8, none, (.ld true 10 (.tmp 1))), (none, none, (.st true 10 (.tmp 2) (.tmp 8)))]
def c : MC := (.seq (.reg r0 (some [1, 2])) (.seq (.seq (.reg r1 (some [1, 2, 5])) (.cond (.tmp 5) (.seq (.reg r2 (some [2])) .ret) .skip)) (.seq (.reg r3 (some [2])) .ret)))
def ann : Ann := [(0, (some [1, 2], 0, [], [], [])), (1, (some [1, 2, 5], 0, [], [], [])), (2, (some [2], 0, [], [], [])), (3, (some [2], 0, [], [], []))]
theorem ok : compF Try.prog Try.f65 ann = some (9, c, [(2, some (true, 10))]) := by kernel_rfl
def p1 (S : St) : Prop := ops C r3 (kq [2] R) S
def p3 (S : St) : Prop := ops C r2 (kq [2] R) S
def p2 (S : St) : Prop := condX (S.ev (.tmp 5)) (p3 C R) (p1 C R) S
def p4 (S : St) : Prop := ops C r1 (kq [1, 2, 5] (p2 C R)) S
def p5 (S : St) : Prop := ops C r0 (kq [1, 2] (p4 C R)) S
theorem s (S : St) : X C c (retK R) S = p5 C R S := by kernel_rfl
theorem E : type_of% @r3.eq_1 ∧ type_of% @p1.eq_1 ∧ type_of% @r2.eq_1 ∧ type_of% @p3.eq_1 ∧ type_of% @p2.eq_1 ∧ type_of% @r1.eq_1 ∧ type_of% @p4.eq_1 ∧ type_of% @r0.eq_1 ∧ type_of% @p5.eq_1 ∧ type_of% @s := ⟨@r3.eq_1, @p1.eq_1, @r2.eq_1, @p3.eq_1, @p2.eq_1, @r1.eq_1, @p4.eq_1, @r0.eq_1, @p5.eq_1, @s⟩
end r03_clean
namespace r03_gcd
def r0 : List G := [(some 2, none, (.box true 5 (.tmp 0))), (some 3, none, (.box true 5 (.tmp 1))), (some 4, none, (.new zW))]
def r1 : List G := [(some 12, none, (.ld true 5 (.tmp 3))), (some 13, none, (.call false 47 [(.tmp 12)])), (some 14, none, (.bin .neq (.tmp 13) (.const (.int .i64 0))))]
def r2 : List G := [(some 16, none, (.ld true 5 (.tmp 2))), (some 17, none, (.call false 89 [(.tmp 16)])), (some 15, none, (.mv (.tmp 17))), (some 18, none, (.ex (.tmp 15) 0)), (some 19, none, (.ex (.tmp 15) 1)), (some 5, none, (.mv (.tmp 18))), (some 6, none, (.mv (.tmp 19)))]
def r3 : List G := [(some 21, none, (.ld true 5 (.tmp 3))), (some 22, none, (.call false 89 [(.tmp 21)])), (some 20, none, (.mv (.tmp 22))), (some 23, none, (.ex (.tmp 20) 0)), (some 24, none, (.ex (.tmp 20) 1)), (some 7, none, (.mv (.tmp 23))), (some 8, none, (.mv (.tmp 24)))]
def r4 : List G := [(some 25, none, (.mv (.tmp 6))), (some 26, none, (.mv (.tmp 25))), (some 27, some (26, true), (.mv (.tmp 8))), (some 28, none, (.pick (.tmp 26) (.tmp 27) (.const (.bool false))))]
def r5 : List G := [(some 29, none, (.mv (.tmp 7))), (some 30, none, (.bin .neq (.tmp 29) (.const (.int .u64 0))))]
def r6 : List G := [(some 31, none, (.mv (.tmp 7))), (some 32, none, (.mv (.tmp 5))), (some 33, none, (.mv (.tmp 7))), (some 34, none, (.bin .rem (.tmp 32) (.tmp 33)))]
def t6 : List G := [(some 5, none, (.mv (.tmp 31))), (some 7, none, (.mv (.tmp 34)))]
def r7 : List G := [(some 35, none, (.mv (.tmp 5))), (some 36, none, (.call false 31 [(.tmp 35)])), (none, none, (.st true 5 (.tmp 4) (.tmp 36)))]
def r8 : List G := [(some 38, none, (.ld true 5 (.tmp 2))), (some 39, none, (.ld true 5 (.tmp 3))), (some 40, none, (.call false 46 [(.tmp 38), (.tmp 39)])), (some 37, none, (.mv (.tmp 40))), (some 41, none, (.ex (.tmp 37) 0)), (some 42, none, (.ex (.tmp 37) 1)), (some 43, none, (.ex (.tmp 37) 2)), (some 9, none, (.new zW)), (some 10, none, (.new zW)), (none, none, (.st true 5 (.tmp 9) (.tmp 41))), (none, none, (.st true 5 (.tmp 10) (.tmp 42))), (some 11, none, (.mv (.tmp 43)))]
def o9 : List (List G) := [[(some 44, none, (.ld true 5 (.tmp 3))), (some 45, none, (.ld true 5 (.tmp 10))), (none, none, (.st true 5 (.tmp 2) (.tmp 44))), (none, none, (.st true 5 (.tmp 3) (.tmp 45)))],
  [(some 44, none, (.ld true 5 (.tmp 3))), (none, none, (.st true 5 (.tmp 2) (.tmp 44))), (some 45, none, (.ld true 5 (.tmp 10))), (none, none, (.st true 5 (.tmp 3) (.tmp 45)))],
  [(some 45, none, (.ld true 5 (.tmp 10))), (some 44, none, (.ld true 5 (.tmp 3))), (none, none, (.st true 5 (.tmp 2) (.tmp 44))), (none, none, (.st true 5 (.tmp 3) (.tmp 45)))]]
def r10 : List G := [(some 46, none, (.ld true 5 (.tmp 2))), (none, none, (.st true 5 (.tmp 4) (.tmp 46)))]
def c : MC := (.seq (.reg r0 (some [2, 3, 4])) (.seq (.block 0 (.loop (.seq (.seq (.reg r1 (some [2, 3, 4, 14])) (.cond (.tmp 14) .skip (.exit 0))) (.block 1 (.seq (.reg r2 (some [2, 3, 4, 5, 6])) (.seq (.reg r3 (some [2, 3, 4, 5, 6, 7, 8])) (.seq (.seq (.reg r4 (some [2, 3, 4, 5, 7, 28])) (.cond (.tmp 28) (.seq (.block 2 (.loop (.seq (.seq (.reg r5 (some [4, 5, 7, 30])) (.cond (.tmp 30) .skip (.exit 2))) (.block 3 (.dreg r6 t6 (some [4, 5, 7])))))) (.seq (.reg r7 (some [4])) .ret)) .skip)) (.seq (.reg r8 (some [2, 3, 4, 10])) (.areg [] o9 (some [2, 3, 4])))))))))) (.seq (.reg r10 (some [4])) .ret)))
def ann : Ann := [(0, (some [2, 3, 4], 0, [], [], [])), (1, (some [2, 3, 4, 14], 0, [], [], [])), (2, (some [2, 3, 4, 5, 6], 0, [], [], [])), (3, (some [2, 3, 4, 5, 6, 7, 8], 0, [], [], [])), (4, (some [2, 3, 4, 5, 7, 28], 0, [], [], [])), (5, (some [4, 5, 7, 30], 0, [], [], [])), (6, (some [4, 5, 7], 4, [2, 3], [(0, 0), (1, 0), (2, 2), (3, 2)], [])), (7, (some [4], 0, [], [], [])), (8, (some [2, 3, 4, 10], 0, [], [], [])), (9, (some [2, 3, 4], 99999, [], [], [])), (10, (some [4], 0, [], [], []))]
theorem ok : compF Try.prog Try.f58 ann = some (47, c, [(4, some (true, 5))]) := by kernel_rfl
def p1 (S : St) : Prop := ops C r10 (kq [4] R) S
def p3 (S : St) : Prop := areX C [] o9 (kq [2, 3, 4] L1) S
def p4 (S : St) : Prop := ops C r8 (kq [2, 3, 4, 10] (p3 C L1)) S
def p6 (S : St) : Prop := ops C r7 (kq [4] R) S
def p8 (S : St) : Prop := ops C r6 (ops C t6 (kq [4, 5, 7] L2)) S
def p9 (S : St) : Prop := condX (S.ev (.tmp 30)) (p8 C L2) (p6 C R) S
def p10 (S : St) : Prop := ops C r5 (kq [4, 5, 7, 30] (p9 C R L2)) S
def p7 (S : St) : Prop := LX C (fun L2 => (p10 C R L2)) S
theorem p7_l (S : St) : p7 C R S = LX C (fun L2 => (p10 C R L2)) S := rfl
def p5 (S : St) : Prop := condX (S.ev (.tmp 28)) (p7 C R) (p4 C L1) S
def p11 (S : St) : Prop := ops C r4 (kq [2, 3, 4, 5, 7, 28] (p5 C R L1)) S
def p12 (S : St) : Prop := ops C r3 (kq [2, 3, 4, 5, 6, 7, 8] (p11 C R L1)) S
def p13 (S : St) : Prop := ops C r2 (kq [2, 3, 4, 5, 6] (p12 C R L1)) S
def p14 (S : St) : Prop := condX (S.ev (.tmp 14)) (p13 C R L1) (p1 C R) S
def p15 (S : St) : Prop := ops C r1 (kq [2, 3, 4, 14] (p14 C R L1)) S
def p2 (S : St) : Prop := LX C (fun L1 => (p15 C R L1)) S
theorem p2_l (S : St) : p2 C R S = LX C (fun L1 => (p15 C R L1)) S := rfl
def p16 (S : St) : Prop := ops C r0 (kq [2, 3, 4] (p2 C R)) S
theorem s (S : St) : X C c (retK R) S = p16 C R S := by kernel_rfl
theorem E : type_of% @r10.eq_1 ∧ type_of% @p1.eq_1 ∧ type_of% @o9.eq_1 ∧ type_of% @p3.eq_1 ∧ type_of% @r8.eq_1 ∧ type_of% @p4.eq_1 ∧ type_of% @r7.eq_1 ∧ type_of% @p6.eq_1 ∧ type_of% @r6.eq_1 ∧ type_of% @t6.eq_1 ∧ type_of% @p8.eq_1 ∧ type_of% @p9.eq_1 ∧ type_of% @r5.eq_1 ∧ type_of% @p10.eq_1 ∧ type_of% @p5.eq_1 ∧ type_of% @r4.eq_1 ∧ type_of% @p11.eq_1 ∧ type_of% @r3.eq_1 ∧ type_of% @p12.eq_1 ∧ type_of% @r2.eq_1 ∧ type_of% @p13.eq_1 ∧ type_of% @p14.eq_1 ∧ type_of% @r1.eq_1 ∧ type_of% @p15.eq_1 ∧ type_of% @r0.eq_1 ∧ type_of% @p16.eq_1 ∧ type_of% @s := ⟨@r10.eq_1, @p1.eq_1, @o9.eq_1, @p3.eq_1, @r8.eq_1, @p4.eq_1, @r7.eq_1, @p6.eq_1, @r6.eq_1, @t6.eq_1, @p8.eq_1, @p9.eq_1, @r5.eq_1, @p10.eq_1, @p5.eq_1, @r4.eq_1, @p11.eq_1, @r3.eq_1, @p12.eq_1, @r2.eq_1, @p13.eq_1, @p14.eq_1, @r1.eq_1, @p15.eq_1, @r0.eq_1, @p16.eq_1, @s⟩
end r03_gcd
namespace r03_one
def r0 : List G := [(some 0, none, (.new zW))]
def r1 : List G := [(some 1, none, (.call false 16 [(.const (.int .i64 1))])), (none, none, (.st true 5 (.tmp 0) (.tmp 1)))]
def c : MC := (.seq (.reg r0 (some [0])) (.seq (.reg r1 (some [0])) .ret))
def ann : Ann := [(0, (some [0], 0, [], [], [])), (1, (some [0], 0, [], [], []))]
theorem ok : compF Try.prog Try.f77 ann = some (2, c, [(0, some (true, 5))]) := by kernel_rfl
def p1 (S : St) : Prop := ops C r1 (kq [0] R) S
def p2 (S : St) : Prop := ops C r0 (kq [0] (p1 C R)) S
theorem s (S : St) : X C c (retK R) S = p2 C R S := by kernel_rfl
theorem E : type_of% @r1.eq_1 ∧ type_of% @p1.eq_1 ∧ type_of% @r0.eq_1 ∧ type_of% @p2.eq_1 ∧ type_of% @s := ⟨@r1.eq_1, @p1.eq_1, @r0.eq_1, @p2.eq_1, @s⟩
end r03_one
namespace r03_small
def r0 : List G := [(some 1, none, (.box true 5 (.tmp 0))), (some 2, none, (.mv (.const (.bool false))))]
def r1 : List G := [(some 3, none, (.fa 1 (.tmp 1))), (some 4, none, (.ia 4 1 (.tmp 3) (.const (.int .i64 3)))), (some 5, none, (.ld false 1 (.tmp 4))), (some 6, none, (.bin .eql (.tmp 5) (.const (.int .u64 0)))), (some 7, none, (.mv (.tmp 6))), (some 8, some (7, true), (.fa 1 (.tmp 1))), (some 9, some (7, true), (.ia 4 1 (.tmp 8) (.const (.int .i64 2)))), (some 10, some (7, true), (.ld false 1 (.tmp 9))), (some 11, some (7, true), (.bin .eql (.tmp 10) (.const (.int .u64 0)))), (some 12, none, (.pick (.tmp 7) (.tmp 11) (.const (.bool false)))), (some 13, none, (.mv (.tmp 12))), (some 14, some (13, true), (.fa 1 (.tmp 1))), (some 15, some (13, true), (.ia 4 1 (.tmp 14) (.const (.int .i64 1)))), (some 16, some (13, true), (.ld false 1 (.tmp 15))), (some 17, some (13, true), (.bin .lss (.tmp 16) (.const (.int .u64 9223372036854775808)))), (some 18, none, (.pick (.tmp 13) (.tmp 17) (.const (.bool false)))), (some 2, none, (.mv (.tmp 18)))]
def c : MC := (.seq (.reg r0 (some [1])) (.seq (.reg r1 (some [2])) .ret))
def ann : Ann := [(0, (some [1], 0, [], [], [])), (1, (some [2], 0, [], [], []))]
theorem ok : compF Try.prog Try.f82 ann = some (19, c, [(2, none)]) := by kernel_rfl
def p1 (S : St) : Prop := ops C r1 (kq [2] R) S
def p2 (S : St) : Prop := ops C r0 (kq [1] (p1 C R)) S
theorem s (S : St) : X C c (retK R) S = p2 C R S := by kernel_rfl
theorem E : type_of% @r1.eq_1 ∧ type_of% @p1.eq_1 ∧ type_of% @r0.eq_1 ∧ type_of% @p2.eq_1 ∧ type_of% @s := ⟨@r1.eq_1, @p1.eq_1, @r0.eq_1, @p2.eq_1, @s⟩
end r03_small
end Go.Proofs.Ytlanoclibdhpmaa

/- Qc: What calls of the reference of ratio give. -/
namespace Go.Proofs.Ytlanoclibdhpmaa
open Go Go.RowKit Sx
set_option linter.unusedVariables false
set_option linter.unusedSimpArgs false
theorem small_plain2 {m : Int} (h : A4 m) : m < ((2 ^ 127 : Nat) : Int) ↔ lb3 m = 0 ∧ lb2 m = 0 ∧ lb1 m < 9223372036854775808 := by
  rw [small_plain h]
  have := lb1_in m
  rw [Int.fdiv_eq_ediv_of_nonneg _ (by decide)]
  unfold U64 at this
  constructor
  · rintro ⟨a, b, c⟩; exact ⟨a, b, by omega⟩
  · rintro ⟨a, b, c⟩; exact ⟨a, b, by omega⟩
theorem rx_small {z : Int} (h : Fits z) (W : World) : Gives Try.prog 82 [WX z] W (· = .bool (decide (ab z < ((2 ^ 127 : Nat) : Int)))) := by
  have e := small_plain2 (m := ab z) ⟨ab_nonneg z, (fits_lt z).1 h⟩
  refine gives_known en_r03_small ?_
  rw [show decide (ab z < ((2 ^ 127 : Nat) : Int)) = (decide (lb3 (ab z) = 0) && (decide (lb2 (ab z) = 0) && decide (lb1 (ab z) < 9223372036854775808))) by rw [Bool.eq_iff_iff, decide_eq_true_iff, e]; simp]
  clear e h
  refine known_of (enter Try.func82 r03_small.ok (args := [WX z]) (by simp) ?_)
  repeat' (first | simp (disch := omega) only [sxE, r03_small.E, Nat.reduceAdd, Nat.reduceEqDiff, Nat.reduceMul, Nat.reduceSub, Int.reduceAdd, Int.reduceSub, Int.reduceMul, Int.reduceNeg, Int.reduceLT, Int.reduceLE, Int.reduceEq, Int.reduceToNat, ↓reduceIte, Int.reducePow, Nat.reduceLeDiff, Nat.reduceLT, ne_eq, eq_self, List.length_cons, List.length_nil, qxE] | ((with_reducible first | apply cond_beq | apply gd_beq) <;> (intro hc; first | simp only [beq_iff_eq.2 hc] | simp only [beq_eq_false_iff_ne.2 hc] | skip)) | ((with_reducible first | apply cond_dec | apply gd_dec) <;> (intro hc; first | simp only [decide_eq_true hc] | simp only [decide_eq_false hc] | skip)) | ((with_reducible first | apply cond_of | apply gd_of) <;> (intro hc; try simp only [hc])))
  all_goals (refine vb ?_; rw [Bool.eq_iff_iff]; simp_all)
theorem rx_abs {z : Int} (W : World) : Gives Try.prog 59 [WX z] W (· = WX (ab z)) := by
  refine gives_known en_r03_abs ?_
  refine known_of (enter Try.func59 r03_abs.ok (args := [_]) (by simp) ?_)
  repeat' (first | simp (disch := omega) only [sxE, r03_abs.E, Nat.reduceAdd, Nat.reduceEqDiff, Nat.reduceMul, Nat.reduceSub, Int.reduceAdd, Int.reduceSub, Int.reduceMul, Int.reduceNeg, Int.reduceLT, Int.reduceLE, Int.reduceEq, Int.reduceToNat, ↓reduceIte, Int.reducePow, Nat.reduceLeDiff, Nat.reduceLT, ne_eq, eq_self, List.length_cons, List.length_nil, qxE])
theorem rx_one (W : World) : Gives Try.prog 77 [] W (· = WX 1) := by
  refine gives_known en_r03_one ?_
  refine known_of (enter Try.func77 r03_one.ok (args := []) (by simp) ?_)
  repeat' (first | simp (disch := omega) only [sxE, r03_one.E, Nat.reduceAdd, Nat.reduceEqDiff, Nat.reduceMul, Nat.reduceSub, Int.reduceAdd, Int.reduceSub, Int.reduceMul, Int.reduceNeg, Int.reduceLT, Int.reduceLE, Int.reduceEq, Int.reduceToNat, ↓reduceIte, Int.reducePow, Nat.reduceLeDiff, Nat.reduceLT, ne_eq, eq_self, List.length_cons, List.length_nil, qxE] | (with_reducible refine Sx.call_at (f := 16) (fun W hW => rx_of i64_one W) ?_))
def gcF2 (x : Int × Int) : St := ⟨3, [(4, .p 2 0), (5, .v (.int .u64 x.1)), (7, .v (.int .u64 x.2))], [(2, [.bool false, .int .u64 0, .int .u64 0, .int .u64 0, .int .u64 0])], ext0⟩
set_option maxRecDepth 100000 in
theorem rx_gcd {z y : Int} (h : Fits z) (h' : Fits y) (n1 : 0 ≤ z) (n2 : 0 ≤ y) (W : World) : Gives Try.prog 58 [WX z, WX y] W (· = WX (gc z y)) := by
  refine gives_known en_r03_gcd ?_
  refine known_of (enter Try.func58 r03_gcd.ok (args := [WX z, WX y]) (by simp) ?_)
  repeat' (first | simp (disch := omega) only [sxE, r03_gcd.E, Nat.reduceAdd, Nat.reduceEqDiff, Nat.reduceMul, Nat.reduceSub, Int.reduceAdd, Int.reduceSub, Int.reduceMul, Int.reduceNeg, Int.reduceLT, Int.reduceLE, Int.reduceEq, Int.reduceToNat, ↓reduceIte, Int.reducePow, Nat.reduceLeDiff, Nat.reduceLT, ne_eq, eq_self, List.length_cons, List.length_nil, qxE])
  rw [r03_gcd.p2_l]
  refine LX_inv gcF (fun x => 0 ≤ x.1 ∧ 0 ≤ x.2 ∧ Fits x.1 ∧ Fits x.2 ∧ gc x.1 x.2 = gc z y) (fun x => x.2.toNat) ?round (z, y) ⟨n1, n2, h, h', rfl⟩ ?start
  case start =>
    unfold gcF wc
    dsimp only
    simp (disch := omega) only [sxE, r03_gcd.E, Nat.reduceAdd, Nat.reduceEqDiff, Nat.reduceMul, Nat.reduceSub, Int.reduceAdd, Int.reduceSub, Int.reduceMul, Int.reduceNeg, Int.reduceLT, Int.reduceLE, Int.reduceEq, Int.reduceToNat, ↓reduceIte, Int.reducePow, Nat.reduceLeDiff, Nat.reduceLT, ne_eq, eq_self, List.length_cons, List.length_nil]
  case round =>
    rintro ⟨x, w⟩ ⟨h1, h2, h3, h4, h5⟩
    dsimp only at h1 h2 h3 h4 h5 ⊢
    rw [← h5]
    clear h5 h h' n1 n2
    have hcm := cm_zero w
    unfold gcF wc
    dsimp only
    by_cases hw : w = 0
    · subst hw
      rw [gc_zero x h1]
      have hc0 : cm 0 0 = 0 := rfl
      repeat' (first | simp (disch := omega) only [sxE, r03_gcd.E, Nat.reduceAdd, Nat.reduceEqDiff, Nat.reduceMul, Nat.reduceSub, Int.reduceAdd, Int.reduceSub, Int.reduceMul, Int.reduceNeg, Int.reduceLT, Int.reduceLE, Int.reduceEq, Int.reduceToNat, ↓reduceIte, Int.reducePow, Nat.reduceLeDiff, Nat.reduceLT, ne_eq, eq_self, List.length_cons, List.length_nil, qxE, hc0] | (with_reducible refine Sx.call_at (f := 47) (fun W hW => rx_sign h4 W) ?_))
    · have hc0 : cm w 0 ≠ 0 := by rw [hcm]; (repeat' split) <;> omega
      have hq := fits_emod (z := x) h4 hw
      have hm0 := Int.emod_nonneg x hw
      have hm1 := Int.emod_lt_of_pos x (show 0 < w by omega)
      have hgs := gc_step h1 (show 0 < w by omega)
      clear hcm
      by_cases hu : x < 18446744073709551616 ∧ w < 18446744073709551616
      · have u1 : unb x = true := decide_eq_true ⟨h1, hu.1⟩
        have u2 : unb w = true := decide_eq_true ⟨h2, hu.2⟩
        have u3 : unv x = x := by unfold unv; rw [u1]; rfl
        have u4 : unv w = w := by unfold unv; rw [u2]; rfl
        have k1 := fun W => rx_unsigned h3 W
        have k2 := fun W => rx_unsigned h4 W
        rw [u1, u3] at k1
        rw [u2, u4] at k2
        repeat' (first | simp (disch := omega) only [sxE, r03_gcd.E, Nat.reduceAdd, Nat.reduceEqDiff, Nat.reduceMul, Nat.reduceSub, Int.reduceAdd, Int.reduceSub, Int.reduceMul, Int.reduceNeg, Int.reduceLT, Int.reduceLE, Int.reduceEq, Int.reduceToNat, ↓reduceIte, Int.reducePow, Nat.reduceLeDiff, Nat.reduceLT, ne_eq, eq_self, List.length_cons, List.length_nil, qxE] | (with_reducible refine Sx.call_at (f := 47) (fun W hW => rx_sign h4 W) ?_) | (with_reducible refine Sx.call_at (f := 89) (fun W hW => k1 W) ?_) | (with_reducible refine Sx.call_at (f := 89) (fun W hW => k2 W) ?_))
        rw [r03_gcd.p7_l]
        obtain ⟨hu1, hu2⟩ := hu
        clear hgs hm0 hm1 hq hc0 hw u1 u2 u3 u4 k1 k2
        refine LX_inv gcF2 (fun t => U64 t.1 ∧ U64 t.2 ∧ gc t.1 t.2 = gc x w) (fun t => t.2.toNat) ?round2 (x, w) ⟨⟨h1, by omega⟩, ⟨h2, by omega⟩, rfl⟩ ?start2
        case start2 =>
          unfold gcF2
          dsimp only
          simp (disch := omega) only [sxE, r03_gcd.E, Nat.reduceAdd, Nat.reduceEqDiff, Nat.reduceMul, Nat.reduceSub, Int.reduceAdd, Int.reduceSub, Int.reduceMul, Int.reduceNeg, Int.reduceLT, Int.reduceLE, Int.reduceEq, Int.reduceToNat, ↓reduceIte, Int.reducePow, Nat.reduceLeDiff, Nat.reduceLT, ne_eq, eq_self, List.length_cons, List.length_nil]
        case round2 =>
          rintro ⟨s, t⟩ ⟨i1, i2, i3⟩
          dsimp only at i1 i2 i3 ⊢
          rw [← i3]
          unfold gcF2
          dsimp only
          by_cases ht : t = 0
          · subst ht
            rw [gc_zero s i1.1]
            repeat' (first | simp (disch := omega) only [sxE, r03_gcd.E, Nat.reduceAdd, Nat.reduceEqDiff, Nat.reduceMul, Nat.reduceSub, Int.reduceAdd, Int.reduceSub, Int.reduceMul, Int.reduceNeg, Int.reduceLT, Int.reduceLE, Int.reduceEq, Int.reduceToNat, ↓reduceIte, Int.reducePow, Nat.reduceLeDiff, Nat.reduceLT, ne_eq, eq_self, List.length_cons, List.length_nil, qxE] | (with_reducible refine Sx.call_at (f := 31) (fun W hW => rx_ofU i1 W) ?_))
          · have e1 : s.tmod t = s % t := Int.tmod_eq_emod_of_nonneg i1.1
            have j0 := Int.emod_nonneg s ht
            have j1 := Int.emod_lt_of_pos s (show 0 < t by have := i2.1; omega)
            have j2 := gc_step i1.1 (show 0 < t by have := i2.1; omega)
            have j3 := i2.2
            repeat' (first | simp (disch := omega) only [sxE, r03_gcd.E, Nat.reduceAdd, Nat.reduceEqDiff, Nat.reduceMul, Nat.reduceSub, Int.reduceAdd, Int.reduceSub, Int.reduceMul, Int.reduceNeg, Int.reduceLT, Int.reduceLE, Int.reduceEq, Int.reduceToNat, ↓reduceIte, Int.reducePow, Nat.reduceLeDiff, Nat.reduceLT, ne_eq, eq_self, List.length_cons, List.length_nil, qxE, e1])
            exact ⟨(t, s % t), ⟨i2, ⟨j0, by dsimp only; omega⟩, j2⟩, by dsimp only; omega, by repeat' (first | (with_reducible rfl) | (exact Or.inl rfl) | apply And.intro)⟩
      · have u2 : unb x = false ∨ unb w = false := by
          rcases Int.lt_or_le x 18446744073709551616 with hl | hl
          · right; exact decide_eq_false (by omega)
          · left; exact decide_eq_false (by omega)
        have k1 := fun W => rx_unsigned h3 W
        have k2 := fun W => rx_unsigned h4 W
        generalize unb x = p1 at *
        generalize unb w = p2 at *
        generalize unv x = w1 at *
        generalize unv w = w2 at *
        clear hu
        cases p1
        · repeat' (first | simp (disch := omega) only [sxE, r03_gcd.E, Nat.reduceAdd, Nat.reduceEqDiff, Nat.reduceMul, Nat.reduceSub, Int.reduceAdd, Int.reduceSub, Int.reduceMul, Int.reduceNeg, Int.reduceLT, Int.reduceLE, Int.reduceEq, Int.reduceToNat, ↓reduceIte, Int.reducePow, Nat.reduceLeDiff, Nat.reduceLT, ne_eq, eq_self, List.length_cons, List.length_nil, qxE] | (with_reducible refine Sx.call_at (f := 47) (fun W hW => rx_sign h4 W) ?_) | (with_reducible refine Sx.call_at (f := 89) (fun W hW => k1 W) ?_) | (with_reducible refine Sx.call_at (f := 89) (fun W hW => k2 W) ?_) | (with_reducible refine Sx.call_at (f := 46) (fun W hW => rx_divmod h3 h4 hw W) ?_))
          exact ⟨(w, x % w), ⟨h2, hm0, h4, hq, hgs⟩, by dsimp only; omega, by repeat' (first | (with_reducible rfl) | (exact Or.inl rfl) | apply And.intro)⟩
        · obtain rfl : p2 = false := by rcases u2 with h | h; cases h; exact h
          repeat' (first | simp (disch := omega) only [sxE, r03_gcd.E, Nat.reduceAdd, Nat.reduceEqDiff, Nat.reduceMul, Nat.reduceSub, Int.reduceAdd, Int.reduceSub, Int.reduceMul, Int.reduceNeg, Int.reduceLT, Int.reduceLE, Int.reduceEq, Int.reduceToNat, ↓reduceIte, Int.reducePow, Nat.reduceLeDiff, Nat.reduceLT, ne_eq, eq_self, List.length_cons, List.length_nil, qxE] | (with_reducible refine Sx.call_at (f := 47) (fun W hW => rx_sign h4 W) ?_) | (with_reducible refine Sx.call_at (f := 89) (fun W hW => k1 W) ?_) | (with_reducible refine Sx.call_at (f := 89) (fun W hW => k2 W) ?_) | (with_reducible refine Sx.call_at (f := 46) (fun W hW => rx_divmod h3 h4 hw W) ?_))
          exact ⟨(w, x % w), ⟨h2, hm0, h4, hq, hgs⟩, by dsimp only; omega, by repeat' (first | (with_reducible rfl) | (exact Or.inl rfl) | apply And.intro)⟩
set_option maxRecDepth 100000 in
theorem rx_rvalid {p q : Int} (h : Fits p) (h' : Fits q) (W : World) : Gives Try.prog 42 [RX p q] W (· = .bool (rok true p q)) := by
  have hg := fits_gc h h'
  have hcm := cm_pos q
  have gq := fun (hq : 0 ≤ q) W => rx_gcd (fits_ab h) h' (ab_nonneg p) hq W
  rw [gc_abl] at gq
  refine gives_known en_r03_Valid ?_
  by_cases hq : 0 < q
  · have gq := gq (by omega)
    have hc0 : ¬ cm q 0 ≤ 0 := by omega
    refine known_of (enter Try.func42 r03_Valid.ok (args := [RX p q]) (by simp) ?_)
    repeat' (first | simp (disch := omega) only [sxE, r03_Valid.E, Nat.reduceAdd, Nat.reduceEqDiff, Nat.reduceMul, Nat.reduceSub, Int.reduceAdd, Int.reduceSub, Int.reduceMul, Int.reduceNeg, Int.reduceLT, Int.reduceLE, Int.reduceEq, Int.reduceToNat, ↓reduceIte, Int.reducePow, Nat.reduceLeDiff, Nat.reduceLT, ne_eq, eq_self, List.length_cons, List.length_nil, qxE] | (with_reducible refine Sx.call_at (f := 57) (fun W hW => rx_valid h W) ?_) | (with_reducible refine Sx.call_at (f := 57) (fun W hW => rx_valid h' W) ?_) | (with_reducible refine Sx.call_at (f := 47) (fun W hW => rx_sign h' W) ?_) | (with_reducible refine Sx.call_at (f := 82) (fun W hW => rx_small h W) ?_) | (with_reducible refine Sx.call_at (f := 82) (fun W hW => rx_small h' W) ?_) | (with_reducible refine Sx.call_at (f := 59) (fun W hW => rx_abs W) ?_) | (with_reducible refine Sx.call_at (f := 58) (fun W hW => gq W) ?_) | (with_reducible refine Sx.call_at (f := 77) (fun W hW => rx_one W) ?_) | ((with_reducible apply Sx.eq_is); (case h => exact fun W => eqx_run hg fits_one W); (case' hk => skip)) | ((with_reducible first | apply cond_beq | apply gd_beq) <;> (intro hc; first | simp only [beq_iff_eq.2 hc] | simp only [beq_eq_false_iff_ne.2 hc] | skip)) | ((with_reducible first | apply cond_dec | apply gd_dec) <;> (intro hc; first | simp only [decide_eq_true hc] | simp only [decide_eq_false hc] | skip)) | ((with_reducible first | apply cond_of | apply gd_of) <;> (intro hc; try simp only [hc])))
    all_goals (refine vb ?_; unfold rok; rw [Bool.eq_iff_iff]; simp_all <;> (intros; omega))
  · have hc0 : cm q 0 ≤ 0 := by omega
    have e : rok true p q = false := by unfold rok; rw [decide_eq_false hq]; rfl
    rw [e]
    refine known_of (enter Try.func42 r03_Valid.ok (args := [RX p q]) (by simp) ?_)
    repeat' (first | simp (disch := omega) only [sxE, r03_Valid.E, Nat.reduceAdd, Nat.reduceEqDiff, Nat.reduceMul, Nat.reduceSub, Int.reduceAdd, Int.reduceSub, Int.reduceMul, Int.reduceNeg, Int.reduceLT, Int.reduceLE, Int.reduceEq, Int.reduceToNat, ↓reduceIte, Int.reducePow, Nat.reduceLeDiff, Nat.reduceLT, ne_eq, eq_self, List.length_cons, List.length_nil, qxE] | (with_reducible refine Sx.call_at (f := 57) (fun W hW => rx_valid h W) ?_) | (with_reducible refine Sx.call_at (f := 57) (fun W hW => rx_valid h' W) ?_) | (with_reducible refine Sx.call_at (f := 47) (fun W hW => rx_sign h' W) ?_))
theorem rx_rvalid0 {v : Value} (h : BadR v) (W : World) : Gives Try.prog 42 [v] W (· = .bool false) := by
  refine gives_known en_r03_Valid ?_
  rcases h with ⟨q, h, rfl⟩ | ⟨p, h, rfl⟩ | rfl
  · refine known_of (enter Try.func42 r03_Valid.ok (args := [_]) (by simp) ?_)
    repeat' (first | simp (disch := omega) only [sxE, r03_Valid.E, Nat.reduceAdd, Nat.reduceEqDiff, Nat.reduceMul, Nat.reduceSub, Int.reduceAdd, Int.reduceSub, Int.reduceMul, Int.reduceNeg, Int.reduceLT, Int.reduceLE, Int.reduceEq, Int.reduceToNat, ↓reduceIte, Int.reducePow, Nat.reduceLeDiff, Nat.reduceLT, ne_eq, eq_self, List.length_cons, List.length_nil, qxE] | (with_reducible refine Sx.call_at (f := 57) (fun W hW => rx_valid0 W) ?_))
  · refine known_of (enter Try.func42 r03_Valid.ok (args := [_]) (by simp) ?_)
    repeat' (first | simp (disch := omega) only [sxE, r03_Valid.E, Nat.reduceAdd, Nat.reduceEqDiff, Nat.reduceMul, Nat.reduceSub, Int.reduceAdd, Int.reduceSub, Int.reduceMul, Int.reduceNeg, Int.reduceLT, Int.reduceLE, Int.reduceEq, Int.reduceToNat, ↓reduceIte, Int.reducePow, Nat.reduceLeDiff, Nat.reduceLT, ne_eq, eq_self, List.length_cons, List.length_nil, qxE] | (with_reducible refine Sx.call_at (f := 57) (fun W hW => rx_valid h W) ?_) | (with_reducible refine Sx.call_at (f := 57) (fun W hW => rx_valid0 W) ?_))
  · refine known_of (enter Try.func42 r03_Valid.ok (args := [_]) (by simp) ?_)
    repeat' (first | simp (disch := omega) only [sxE, r03_Valid.E, Nat.reduceAdd, Nat.reduceEqDiff, Nat.reduceMul, Nat.reduceSub, Int.reduceAdd, Int.reduceSub, Int.reduceMul, Int.reduceNeg, Int.reduceLT, Int.reduceLE, Int.reduceEq, Int.reduceToNat, ↓reduceIte, Int.reducePow, Nat.reduceLeDiff, Nat.reduceLT, ne_eq, eq_self, List.length_cons, List.length_nil, qxE] | (with_reducible refine Sx.call_at (f := 57) (fun W hW => rx_valid0 W) ?_))
theorem rx_rof {z : Int} (h : I64 z) (W : World) : Gives Try.prog 37 [.int .i64 z] W (· = RX z 1) := by
  refine gives_known en_r03_Of ?_
  refine known_of (enter Try.func37 r03_Of.ok (args := [_]) (by simp) ?_)
  repeat' (first | simp (disch := omega) only [sxE, r03_Of.E, Nat.reduceAdd, Nat.reduceEqDiff, Nat.reduceMul, Nat.reduceSub, Int.reduceAdd, Int.reduceSub, Int.reduceMul, Int.reduceNeg, Int.reduceLT, Int.reduceLE, Int.reduceEq, Int.reduceToNat, ↓reduceIte, Int.reducePow, Nat.reduceLeDiff, Nat.reduceLT, ne_eq, eq_self, List.length_cons, List.length_nil, qxE] | (with_reducible refine Sx.call_at (f := 16) (fun W hW => rx_of h W) ?_) | (with_reducible refine Sx.call_at (f := 77) (fun W hW => rx_one W) ?_))
theorem x_foldR01 (q : Int) : Value.agg [.bool false, .int .u64 0, .int .u64 0, .int .u64 0, .int .u64 0, .bool (sg q), .int .u64 (lb0 (ab q)), .int .u64 (lb1 (ab q)), .int .u64 (lb2 (ab q)), .int .u64 (lb3 (ab q))].toArray = RX 0 q := rfl
set_option maxRecDepth 100000 in
theorem rx_rclean {v : Value} {p q : Int} (h : CQ v p q) (W : World) : Gives Try.prog 65 [v] W (· = RX p q) := by
  refine gives_known en_r03_clean ?_
  rcases h with ⟨x, y, h1, h2, rfl, rfl, rfl⟩ | ⟨h, rfl, rfl⟩
  · unfold qn qd
    cases hk : rok true x y
    · refine known_of (enter Try.func65 r03_clean.ok (args := [_]) (by simp) ?_)
      repeat' (first | simp (disch := omega) only [sxE, r03_clean.E, Nat.reduceAdd, Nat.reduceEqDiff, Nat.reduceMul, Nat.reduceSub, Int.reduceAdd, Int.reduceSub, Int.reduceMul, Int.reduceNeg, Int.reduceLT, Int.reduceLE, Int.reduceEq, Int.reduceToNat, ↓reduceIte, Int.reducePow, Nat.reduceLeDiff, Nat.reduceLT, ne_eq, eq_self, List.length_cons, List.length_nil, qxE, hk, x_foldR01] | (with_reducible refine Sx.call_at (f := 42) (fun W hW => rx_rvalid h1 h2 W) ?_) | (with_reducible refine Sx.call_at (f := 77) (fun W hW => rx_one W) ?_))
    · refine known_of (enter Try.func65 r03_clean.ok (args := [_]) (by simp) ?_)
      repeat' (first | simp (disch := omega) only [sxE, r03_clean.E, Nat.reduceAdd, Nat.reduceEqDiff, Nat.reduceMul, Nat.reduceSub, Int.reduceAdd, Int.reduceSub, Int.reduceMul, Int.reduceNeg, Int.reduceLT, Int.reduceLE, Int.reduceEq, Int.reduceToNat, ↓reduceIte, Int.reducePow, Nat.reduceLeDiff, Nat.reduceLT, ne_eq, eq_self, List.length_cons, List.length_nil, qxE, hk] | (with_reducible refine Sx.call_at (f := 42) (fun W hW => rx_rvalid h1 h2 W) ?_))
  · have hv := fun W => rx_rvalid0 h W
    rcases h with ⟨q, h, rfl⟩ | ⟨p, h, rfl⟩ | rfl
    · refine known_of (enter Try.func65 r03_clean.ok (args := [_]) (by simp) ?_)
      repeat' (first | simp (disch := omega) only [sxE, r03_clean.E, Nat.reduceAdd, Nat.reduceEqDiff, Nat.reduceMul, Nat.reduceSub, Int.reduceAdd, Int.reduceSub, Int.reduceMul, Int.reduceNeg, Int.reduceLT, Int.reduceLE, Int.reduceEq, Int.reduceToNat, ↓reduceIte, Int.reducePow, Nat.reduceLeDiff, Nat.reduceLT, ne_eq, eq_self, List.length_cons, List.length_nil, qxE, x_foldR01] | (with_reducible refine Sx.call_at (f := 42) (fun W hW => hv W) ?_) | (with_reducible refine Sx.call_at (f := 77) (fun W hW => rx_one W) ?_))
    · refine known_of (enter Try.func65 r03_clean.ok (args := [_]) (by simp) ?_)
      repeat' (first | simp (disch := omega) only [sxE, r03_clean.E, Nat.reduceAdd, Nat.reduceEqDiff, Nat.reduceMul, Nat.reduceSub, Int.reduceAdd, Int.reduceSub, Int.reduceMul, Int.reduceNeg, Int.reduceLT, Int.reduceLE, Int.reduceEq, Int.reduceToNat, ↓reduceIte, Int.reducePow, Nat.reduceLeDiff, Nat.reduceLT, ne_eq, eq_self, List.length_cons, List.length_nil, qxE, x_foldR01] | (with_reducible refine Sx.call_at (f := 42) (fun W hW => hv W) ?_) | (with_reducible refine Sx.call_at (f := 77) (fun W hW => rx_one W) ?_))
    · refine known_of (enter Try.func65 r03_clean.ok (args := [_]) (by simp) ?_)
      repeat' (first | simp (disch := omega) only [sxE, r03_clean.E, Nat.reduceAdd, Nat.reduceEqDiff, Nat.reduceMul, Nat.reduceSub, Int.reduceAdd, Int.reduceSub, Int.reduceMul, Int.reduceNeg, Int.reduceLT, Int.reduceLE, Int.reduceEq, Int.reduceToNat, ↓reduceIte, Int.reducePow, Nat.reduceLeDiff, Nat.reduceLT, ne_eq, eq_self, List.length_cons, List.length_nil, qxE, x_foldR01] | (with_reducible refine Sx.call_at (f := 42) (fun W hW => hv W) ?_) | (with_reducible refine Sx.call_at (f := 77) (fun W hW => rx_one W) ?_))
theorem rx_rcompare {v v' : Value} {p q p' q' : Int} (h : CQ v p q) (h' : CQ v' p' q') (W : World) : Gives Try.prog 28 [v, v'] W (· = .int .i64 (cq p q p' q')) := by
  obtain ⟨c0, c1, c2, c3, c4, c5, c6, c7, c8, c9, rfl⟩ := h.ten
  obtain ⟨d0, d1, d2, d3, d4, d5, d6, d7, d8, d9, rfl⟩ := h'.ten
  have f := h.fq
  have f' := h'.fq
  have m1 := f.fm f'
  have m2 := f'.fm f
  refine gives_known en_r03_Compare ?_
  refine known_of (enter Try.func28 r03_Compare.ok (args := [_, _]) (by simp) ?_)
  repeat' (first | simp (disch := omega) only [sxE, r03_Compare.E, Nat.reduceAdd, Nat.reduceEqDiff, Nat.reduceMul, Nat.reduceSub, Int.reduceAdd, Int.reduceSub, Int.reduceMul, Int.reduceNeg, Int.reduceLT, Int.reduceLE, Int.reduceEq, Int.reduceToNat, ↓reduceIte, Int.reducePow, Nat.reduceLeDiff, Nat.reduceLT, ne_eq, eq_self, List.length_cons, List.length_nil, qxE] | (with_reducible refine Sx.call_at (f := 65) (fun W hW => rx_rclean h W) ?_) | (with_reducible refine Sx.call_at (f := 65) (fun W hW => rx_rclean h' W) ?_) | (with_reducible refine Sx.call_at (f := 29) (fun W hW => rx_mul f.fp f'.fq m1 W) ?_) | (with_reducible refine Sx.call_at (f := 29) (fun W hW => rx_mul f'.fp f.fq m2 W) ?_) | (with_reducible refine Sx.call_at (f := 33) (fun W hW => rx_compare m1 m2 W) ?_))
  rfl
theorem sg_beq (z y : Int) : (sg z == sg y) = decide ((z < 0) ↔ (y < 0)) := by
  unfold sg
  by_cases h : z < 0 <;> by_cases h' : y < 0 <;> simp [h, h']
theorem mn_sg {z y : Int} (hy : y ≠ 0) : ((z < 0 ↔ y < 0) → mn z y = ab z / gc z y) ∧ (¬ (z < 0 ↔ y < 0) → mn z y = -(ab z / gc z y)) := by
  have hd : gc z y ∣ z := gc_dvd_l z y
  unfold mn ab
  by_cases h : z < 0 <;> by_cases h' : y < 0 <;> simp only [h, h', if_true, if_false, iff_true, iff_false, not_true_eq_false, not_false_eq_true, false_implies, true_implies, and_true, true_and, forall_const]
  · rw [Int.neg_ediv_of_dvd hd, Int.neg_neg]
  · exact Int.neg_ediv_of_dvd hd
set_option maxRecDepth 100000 in
theorem rx_rmake {v v' : Value} {b b' : Bool} {z y : Int} (h : RW v b z) (h' : RW v' b' y) (W : World) : Gives Try.prog 20 [v, v'] W (· = mkV (b && b') z y) := by
  refine gives_known en_r03_Make ?_
  have v1 := fun W => ry_valid h W
  have v2 := fun W => ry_valid h' W
  have s2 := fun W => rg_sign h'.is W
  by_cases hbad : b = false ∨ b' = false ∨ y = 0
  · have e : mkV (b && b') z y = .tuple #[RX 0 0, .bool false] := by
      unfold mkV mok
      rcases hbad with rfl | rfl | rfl
      · rfl
      · rw [Bool.and_false]; rfl
      · rw [if_neg (by simp)]
    rw [e]
    obtain ⟨c0, c1, c2, c3, c4, rfl⟩ := h.five
    obtain ⟨d0, d1, d2, d3, d4, rfl⟩ := h'.five
    have hcm := cm_zero_iff y
    clear e h h'
    cases b
    · refine known_of (enter Try.func20 r03_Make.ok (args := [_, _]) (by simp) ?_)
      repeat' (first | simp (disch := omega) only [sxE, r03_Make.E, Nat.reduceAdd, Nat.reduceEqDiff, Nat.reduceMul, Nat.reduceSub, Int.reduceAdd, Int.reduceSub, Int.reduceMul, Int.reduceNeg, Int.reduceLT, Int.reduceLE, Int.reduceEq, Int.reduceToNat, ↓reduceIte, Int.reducePow, Nat.reduceLeDiff, Nat.reduceLT, ne_eq, eq_self, List.length_cons, List.length_nil, qxE] | (with_reducible refine Sx.call_at (f := 57) (fun W hW => v1 W) ?_))
    · cases b'
      · refine known_of (enter Try.func20 r03_Make.ok (args := [_, _]) (by simp) ?_)
        repeat' (first | simp (disch := omega) only [sxE, r03_Make.E, Nat.reduceAdd, Nat.reduceEqDiff, Nat.reduceMul, Nat.reduceSub, Int.reduceAdd, Int.reduceSub, Int.reduceMul, Int.reduceNeg, Int.reduceLT, Int.reduceLE, Int.reduceEq, Int.reduceToNat, ↓reduceIte, Int.reducePow, Nat.reduceLeDiff, Nat.reduceLT, ne_eq, eq_self, List.length_cons, List.length_nil, qxE] | (with_reducible refine Sx.call_at (f := 57) (fun W hW => v1 W) ?_) | (with_reducible refine Sx.call_at (f := 57) (fun W hW => v2 W) ?_))
      · have hc0 : cm y 0 = 0 := hcm.2 (by rcases hbad with h | h | h; cases h; cases h; exact h)
        clear hcm hbad
        refine known_of (enter Try.func20 r03_Make.ok (args := [_, _]) (by simp) ?_)
        repeat' (first | simp (disch := omega) only [sxE, r03_Make.E, Nat.reduceAdd, Nat.reduceEqDiff, Nat.reduceMul, Nat.reduceSub, Int.reduceAdd, Int.reduceSub, Int.reduceMul, Int.reduceNeg, Int.reduceLT, Int.reduceLE, Int.reduceEq, Int.reduceToNat, ↓reduceIte, Int.reducePow, Nat.reduceLeDiff, Nat.reduceLT, ne_eq, eq_self, List.length_cons, List.length_nil, qxE, hc0] | (with_reducible refine Sx.call_at (f := 57) (fun W hW => v1 W) ?_) | (with_reducible refine Sx.call_at (f := 57) (fun W hW => v2 W) ?_) | (with_reducible refine Sx.call_at (f := 47) (fun W hW => s2 W) ?_))
  · obtain ⟨rfl, rfl⟩ : b = true ∧ b' = true := by
      cases b
      · exact absurd (.inl rfl) hbad
      · cases b'
        · exact absurd (.inr (.inl rfl)) hbad
        · exact ⟨rfl, rfl⟩
    have hy : y ≠ 0 := fun e => hbad (.inr (.inr e))
    rcases h with ⟨-, rfl, h⟩ | ⟨h, -, -⟩
    rotate_left
    · cases h
    rcases h' with ⟨-, rfl, h'⟩ | ⟨h', -, -⟩
    rotate_left
    · cases h'
    have hc0 : cm y 0 ≠ 0 := fun e => hy ((cm_zero_iff y).1 e)
    have f1 := fits_mn h hy
    have f2 := fits_mD (z := z) h' hy
    have a1 := fits_ab h
    have a2 := fits_ab h'
    have hg := fits_gc h h'
    have hgp := gc_pos (x := z) hy
    have hgn : gc z y ≠ 0 := by omega
    have e : mkV (true && true) z y = if rok true (mn z y) (mD z y) = true then .tuple #[RX (mn z y) (mD z y), .bool true] else .tuple #[RX 0 0, .bool false] := by
      unfold mkV mok rok
      rw [decide_eq_false hy, decide_eq_true (mk_pos hy), decide_eq_true (mk_gc hy)]
      simp only [Bool.and_true, Bool.true_and, Bool.not_false]
    rw [e]
    have k1 := fun W => rx_rvalid f1 f2 W
    generalize rok true (mn z y) (mD z y) = t at *
    clear e hbad
    have sb := sg_beq z y
    have gg := fun W => rx_gcd a1 a2 (ab_nonneg z) (ab_nonneg y) W
    rw [gc_abs] at gg
    have d1 := fun W => rx_divmod a1 hg hgn W
    have d2 := fun W => rx_divmod a2 hg hgn W
    have e2 : ab y / gc z y = mD z y := rfl
    rw [e2] at d2
    have f3 := fits_ediv a1 hgn
    obtain ⟨m1, m2⟩ := mn_sg (z := z) hy
    by_cases hs : (z < 0 ↔ y < 0)
    · have e1 := m1 hs
      rw [e1] at k1 f1 ⊢
      rw [decide_eq_true hs] at sb
      clear m1 m2 e1 e2 hs
      generalize ab z / gc z y = N at *
      generalize mD z y = D at *
      generalize gc z y = G at *
      cases t
      all_goals
        refine known_of (enter Try.func20 r03_Make.ok (args := [_, _]) (by simp) ?_)
        repeat' (first | simp (disch := omega) only [sxE, r03_Make.E, Nat.reduceAdd, Nat.reduceEqDiff, Nat.reduceMul, Nat.reduceSub, Int.reduceAdd, Int.reduceSub, Int.reduceMul, Int.reduceNeg, Int.reduceLT, Int.reduceLE, Int.reduceEq, Int.reduceToNat, ↓reduceIte, Int.reducePow, Nat.reduceLeDiff, Nat.reduceLT, ne_eq, eq_self, List.length_cons, List.length_nil, qxE, sb] | (with_reducible refine Sx.call_at (f := 57) (fun W hW => v1 W) ?_) | (with_reducible refine Sx.call_at (f := 57) (fun W hW => v2 W) ?_) | (with_reducible refine Sx.call_at (f := 47) (fun W hW => s2 W) ?_) | (with_reducible refine Sx.call_at (f := 59) (fun W hW => rx_abs W) ?_) | (with_reducible refine Sx.call_at (f := 58) (fun W hW => gg W) ?_) | (with_reducible refine Sx.call_at (f := 46) (fun W hW => d1 W) ?_) | (with_reducible refine Sx.call_at (f := 46) (fun W hW => d2 W) ?_) | (with_reducible refine Sx.call_at (f := 42) (fun W hW => k1 W) ?_))
        try rfl
    · have e1 := m2 hs
      rw [e1] at k1 f1 ⊢
      rw [decide_eq_false hs] at sb
      clear m1 m2 e1 e2 hs
      generalize ab z / gc z y = N at *
      generalize mD z y = D at *
      generalize gc z y = G at *
      cases t
      all_goals
        refine known_of (enter Try.func20 r03_Make.ok (args := [_, _]) (by simp) ?_)
        repeat' (first | simp (disch := omega) only [sxE, r03_Make.E, Nat.reduceAdd, Nat.reduceEqDiff, Nat.reduceMul, Nat.reduceSub, Int.reduceAdd, Int.reduceSub, Int.reduceMul, Int.reduceNeg, Int.reduceLT, Int.reduceLE, Int.reduceEq, Int.reduceToNat, ↓reduceIte, Int.reducePow, Nat.reduceLeDiff, Nat.reduceLT, ne_eq, eq_self, List.length_cons, List.length_nil, qxE, sb] | (with_reducible refine Sx.call_at (f := 57) (fun W hW => v1 W) ?_) | (with_reducible refine Sx.call_at (f := 57) (fun W hW => v2 W) ?_) | (with_reducible refine Sx.call_at (f := 47) (fun W hW => s2 W) ?_) | (with_reducible refine Sx.call_at (f := 59) (fun W hW => rx_abs W) ?_) | (with_reducible refine Sx.call_at (f := 58) (fun W hW => gg W) ?_) | (with_reducible refine Sx.call_at (f := 46) (fun W hW => d1 W) ?_) | (with_reducible refine Sx.call_at (f := 46) (fun W hW => d2 W) ?_) | (with_reducible refine Sx.call_at (f := 48) (fun W hW => rx_neg f3 W) ?_) | (with_reducible refine Sx.call_at (f := 42) (fun W hW => k1 W) ?_))
        try rfl
end Go.Proofs.Ytlanoclibdhpmaa

/- Tp: A symbolic run: calls that move a tape. -/
namespace Go.Proofs.Ytlanoclibdhpmaa
open Go Go.RowKit Sx
set_option linter.unusedVariables false
set_option linter.unusedSimpArgs false
namespace Sx
variable {C : Cx} {S : St} {K : St → Prop} {d : Option Nat}
/-- What is known of a tape in the caller's world w: it is a tape, and nothing else of w has turned. -/
def hK (w : World) (tb B Bm : Nat) : KnG where
  bs := List.range' tb (w.heap.size - tb)
  ok n W := n = tb ∧ (tb < w.heap.size ∧ B ≤ w.heap.size) ∧ TapeOk B Bm W tb ∧ w.heap.size ≤ W.heap.size ∧ ∀ i, i < w.heap.size → i ≠ tb → W.heap[i]? = w.heap[i]?
  lt := fun {n W} h b hb => by
    obtain ⟨h0, ⟨h1, h1b⟩, h2, h3, -⟩ := h
    rw [List.mem_range'] at hb
    obtain ⟨i, hi, rfl⟩ := hb
    omega
  keep := fun {n W W'} h hs hb ho => by
    obtain ⟨h0, ⟨hw, hB⟩, ⟨a, len, cap, k, h1, h2, h3, h4, h5, h6, h7, h8⟩, hsz, hg⟩ := h
    have all : ∀ i, i < w.heap.size → W'.heap[i]? = W.heap[i]? := fun i hi => by
      rcases Nat.lt_or_ge i tb with h | h
      · exact ho i (by omega) (by omega)
      · exact hb i (List.mem_range'.2 ⟨i - tb, by omega, by omega⟩)
    have ht := all tb hw
    refine ⟨h0, ⟨hw, hB⟩, ⟨a, len, cap, k, h1, Nat.le_trans h2 hs, (World.cell?_of_block (a := ⟨tb, 0, none⟩) ht).trans h3, (World.cell?_of_block (a := ⟨tb, 1, none⟩) ht).trans h4, (World.frozen?_of_block (a := ⟨tb, 1, none⟩) ht).trans h5, h6, h7, fun hl => ?_⟩, Nat.le_trans hsz hs, fun i hi hn => (all i hi).trans (hg i hi hn)⟩
    obtain ⟨bb, off, e, hne, hlt, hlm, hc⟩ := h8 hl
    refine ⟨bb, off, e, hne, hlt, hlm, fun i hi => ?_⟩
    obtain ⟨x, hx, hix⟩ := hc i hi
    exact ⟨x, (World.cell?_of_block (a := ⟨bb, off + i, none⟩) (all bb (by omega))).trans hx, hix⟩
/-- It tells of the tape in block tb, and goes on behind calls that move it. -/
structure TpK (k : KnG) (n tb B Bm : Nat) : Prop where
  tape : ∀ {W}, k.ok n W → TapeOk B Bm W tb
  go : ∀ {W W'}, k.ok n W → TapeOk B Bm W' tb → W.grownBy W' (some tb) → k.ok n W'
  ge : ∀ {W}, k.ok n W → n ≤ tb
  mem : ∀ {W}, k.ok n W → tb ∈ k.bs
theorem tpk_t (n tb : Nat) : TpK (tK tb) n tb (tb + 1) n where
  tape h := h.2
  go h ht hg := ⟨h.1, ht⟩
  ge h := h.1
  mem h := List.mem_singleton.2 rfl
theorem tpk_h (w : World) (tb B Bm : Nat) : TpK (hK w tb B Bm) tb tb B Bm where
  tape h := h.2.2.1
  go h ht hg := ⟨h.1, h.2.1, ht, Nat.le_trans h.2.2.2.1 hg.size, fun i hi hn => (hg.block i (Nat.lt_of_lt_of_le hi h.2.2.2.1) (fun e => hn (Option.some.inj e))).trans (h.2.2.2.2 i hi hn)⟩
  ge h := Nat.le_of_eq h.1
  mem h := List.mem_range'.2 ⟨0, by have := h.2.1; omega, by omega⟩
/-- A call that moves the tape and nothing else that is known. -/
theorem asks_tp {f : FuncId} {l : List Value} {L : List Kn} {ι : Type} {P : ι → Prop} {k : KnG} {tb B Bm : Nat} (v : ι → Value) (hk : TpK k C.w0.heap.size tb B Bm) (he : ∀ (l : Array Value) W, (callFunc f l).run C.P W = .ok (.enter f l) W) (hT : S.T = kX C.w0.heap.size L) (hm : .g k ∈ L) (hmv : C.mv S = S.T.bs)
    (hL : ∀ j ∈ L, j = .g k ∨ tb ∉ j.bs)
    (h : ∀ W, TapeOk B Bm W tb → Calls C.P f l.toArray W fun e w' => ∃ i, P i ∧ e = .returned (v i) ∧ TapeOk B Bm w' tb ∧ W.grownBy w' (some tb))
    (hK : ∀ i, P i → K (St.put S d (.v (v i)))) : asks C f l d K S := by
  refine asks_T (ι := {i // P i}) (fun i => v i.1) (fun _ => S.T) (fun W hW hok hbs => givesT_calls he (fun i => by rw [hT]; exact kX_stab C L) ?_) (fun i => hK i.1 i.2)
  rw [hT] at hok
  have ho : k.ok C.w0.heap.size W := hok _ hm
  refine (h W (hk.tape ho)).mono fun e w' ⟨i, hi, he, h1, h2⟩ => ⟨⟨i, hi⟩, he, ⟨h2.os, h2.tape, h2.output, h2.size, fun j hj hn => h2.block j hj fun e => hn (by cases e; rw [hmv, hT]; exact kX_bs.2 ⟨_, hm, hk.mem ho⟩)⟩, ?_, fun b hb => ⟨.inl hb, ?_⟩⟩
  · rw [hT]
    intro j hj
    rcases hL j hj with rfl | hb
    · exact hk.go ho h1 h2
    · refine (hok j hj).keep h2.size (fun b hbb => h2.block b ((hok j hj).lt b hbb).2 fun e => hb (by cases e; exact hbb)) fun b hbn hbl => h2.block b hbl fun e => ?_
      have := hk.ge ho
      have e2 : b = tb := Option.some.inj e
      omega
  · rw [hT] at hb
    exact Nat.lt_of_lt_of_le (kX_lt hok b hb).2 h2.size
/-- The start of a function that is given a tape. -/
theorem hK_start {w : World} {tb B Bm : Nat} (h : TapeOk B Bm w tb) : (kX (cut w tb).heap.size [.g (hK w tb B Bm)]).ok w ∧ ∀ b ∈ (kX (cut w tb).heap.size [.g (hK w tb B Bm)]).bs, (cut w tb).heap.size ≤ b ∧ b < w.heap.size := by
  have hc := cut_size (Nat.le_of_lt h.lt)
  have h1 : (kX (cut w tb).heap.size [.g (hK w tb B Bm)]).ok w := fun k hk => by
    rw [List.mem_singleton.1 hk]
    exact ⟨hc, ⟨h.lt, h.leB⟩, h, Nat.le_refl _, fun _ _ _ => rfl⟩
  exact ⟨h1, kX_lt h1⟩
theorem hK_end {w w' : World} {tb B Bm : Nat} {L : List Kn} (h : (kX (cut w tb).heap.size L).ok w') (hm : .g (hK w tb B Bm) ∈ L) (hb : Below (cut w tb).heap.size (cut w tb) w') : TapeOk B Bm w' tb ∧ w.grownBy w' (some tb) := by
  have hk : (hK w tb B Bm).ok (cut w tb).heap.size w' := h _ hm
  exact ⟨hk.2.2.1, hb.os, hb.tape, hb.output, hk.2.2.2.1, fun i hi hn => hk.2.2.2.2 i hi fun e => hn (by rw [e])⟩
theorem tpk_h' {w : World} {tb B Bm : Nat} (h : TapeOk B Bm w tb) : TpK (hK w tb B Bm) (cut w tb).heap.size tb B Bm := by
  rw [cut_size (Nat.le_of_lt h.lt)]; exact tpk_h w tb B Bm
end Sx
/-- What a call that moves the tape in block tb gives. -/
def TpC (f : FuncId) (l : List Value) (tb : Nat) {ι : Type} (P : ι → Prop) (v : ι → Value) : Prop := ∀ {B Bm : Nat} (W : World), TapeOk B Bm W tb → Calls Try.prog f l.toArray W fun e w' => ∃ i, P i ∧ e = .returned (v i) ∧ TapeOk B Bm w' tb ∧ W.grownBy w' (some tb)
theorem t_next (tb : Nat) {n : Int} (h1 : 1 ≤ n) (h2 : n ≤ 1000000) : TpC 18 [.pointer (some ⟨tb, 0, none⟩), .int .i64 n] tb (fun r : Int => 0 ≤ r ∧ r < n) (fun r => .int .i64 r) :=
  fun W h => (next_in tb n h1 h2 W h).mono fun e w' ⟨r, a, b, c, d⟩ => ⟨r, a, b, c, d⟩
theorem t_bool (tb : Nat) {n : Int} (h1 : 2 ≤ n) (h2 : n ≤ 1000) : TpC 49 [.pointer (some ⟨tb, 0, none⟩), .int .i64 n] tb (fun _ : Bool => True) (fun r => .bool r) :=
  fun W h => (bool_any tb n h1 h2 W h).mono fun e w' ⟨r, b, c, d⟩ => ⟨r, trivial, b, c, d⟩
theorem t_word (tb : Nat) : TpC 35 [.pointer (some ⟨tb, 0, none⟩)] tb U64 (fun r => .int .u64 r) :=
  fun W h => (word_any tb W h).mono fun e w' ⟨r, a, b, c, d⟩ => ⟨r, a, b, c, d⟩
theorem t_int (tb : Nat) : TpC 17 [.pointer (some ⟨tb, 0, none⟩)] tb I64 (fun r => .int .i64 r) :=
  fun W h => (int_any tb W h).mono fun e w' ⟨r, a, b, c, d⟩ => ⟨r, a, b, c, d⟩
/-- A raw Wide by its cells. -/
structure RC where
  c0 : Value
  c1 : Value
  c2 : Value
  c3 : Value
  c4 : Value
def RC.v (c : RC) : Value := .agg #[c.c0, c.c1, c.c2, c.c3, c.c4]
theorem asks_tc {C : Cx} {S : St} {K : St → Prop} {d : Option Nat} {f : FuncId} {l : List Value} {L : List Kn} {ι : Type} {P : ι → Prop} {v : ι → Value} {k : KnG} {tb B Bm : Nat} (hP : C.P = Try.prog) (hk : TpK k C.w0.heap.size tb B Bm) (h : TpC f l tb P v) (he : ∀ (l : Array Value) W, (callFunc f l).run Try.prog W = .ok (.enter f l) W) (hT : S.T = kX C.w0.heap.size L) (hm : .g k ∈ L) (hmv : C.mv S = S.T.bs)
    (hL : ∀ j ∈ L, j = .g k ∨ tb ∉ j.bs) (hK : ∀ i, P i → K (St.put S d (.v (v i)))) : asks C f l d K S :=
  asks_tp v hk (by rw [hP]; exact he) hT hm hmv hL (fun W hW => by rw [hP]; exact h W hW) hK
end Go.Proofs.Ytlanoclibdhpmaa

/- CdT: MADE BY PROGRAM (sxgen.py): the small code of some functions, points of it and their equations. -/
namespace Go.Proofs.Ytlanoclibdhpmaa
open Go Go.RowKit Sx
set_option linter.unusedVariables false
variable (C : Cx) (R L1 L2 L3 L4 : St → Prop)
namespace m_Tape__Ratio
def r0 : List G := [(some 2, none, (.new zR))]
def r1 : List G := [(some 7, none, (.mv (.tmp 0))), (some 8, none, (.call false 18 [(.tmp 7), (.const (.int .i64 200))])), (some 9, none, (.bin .sub (.tmp 8) (.const (.int .i64 100)))), (some 10, none, (.call false 16 [(.tmp 9)])), (some 11, none, (.mv (.tmp 0))), (some 12, none, (.call false 18 [(.tmp 11), (.const (.int .i64 60))])), (some 13, none, (.bin .add (.const (.int .i64 1)) (.tmp 12))), (some 14, none, (.call false 16 [(.tmp 13)])), (some 3, none, (.new zW)), (some 4, none, (.new zW)), (none, none, (.st true 5 (.tmp 3) (.tmp 10))), (none, none, (.st true 5 (.tmp 4) (.tmp 14)))]
def r2 : List G := [(some 15, none, (.mv (.tmp 0))), (some 16, none, (.call false 49 [(.tmp 15), (.const (.int .i64 4))]))]
def r3 : List G := [(some 17, none, (.mv (.tmp 0))), (some 18, none, (.call false 17 [(.tmp 17)])), (some 19, none, (.call false 16 [(.tmp 18)])), (some 20, none, (.mv (.tmp 0))), (some 21, none, (.call false 35 [(.tmp 20)])), (some 22, none, (.bin .or (.tmp 21) (.const (.int .u64 1)))), (some 23, none, (.call false 31 [(.tmp 22)])), (none, none, (.st true 5 (.tmp 3) (.tmp 19))), (none, none, (.st true 5 (.tmp 4) (.tmp 23)))]
def r4 : List G := [(some 24, none, (.mv (.tmp 0))), (some 25, none, (.call false 49 [(.tmp 24), (.const (.int .i64 8))]))]
def r5 : List G := [(some 27, none, (.ld true 5 (.tmp 3))), (some 28, none, (.call true 16 [(.const (.int .i64 4611686018427387904))])), (some 29, none, (.call true 29 [(.tmp 27), (.tmp 28)])), (some 26, none, (.mv (.tmp 29))), (some 30, none, (.ex (.tmp 26) 0)), (some 31, none, (.ex (.tmp 26) 1))]
def t5 : List G := [(none, none, (.st true 5 (.tmp 3) (.tmp 30)))]
def r6 : List G := [(some 33, none, (.ld true 5 (.tmp 3))), (some 34, none, (.ld true 5 (.tmp 4))), (some 35, none, (.call false 20 [(.tmp 33), (.tmp 34)])), (some 32, none, (.mv (.tmp 35))), (some 36, none, (.ex (.tmp 32) 0)), (some 37, none, (.ex (.tmp 32) 1)), (some 5, none, (.new zR)), (none, none, (.st true 10 (.tmp 5) (.tmp 36))), (some 6, none, (.mv (.tmp 37)))]
def r7 : List G := [(some 38, none, (.mv (.tmp 6))), (some 39, none, (.un .not (.tmp 38)))]
def r8 : List G := [(some 40, none, (.call false 37 [(.const (.int .i64 1))])), (none, none, (.st true 10 (.tmp 2) (.tmp 40)))]
def r9 : List G := [(some 41, none, (.ld true 10 (.tmp 5))), (none, none, (.st true 10 (.tmp 2) (.tmp 41)))]
def c : MC := (.seq (.reg r0 (some [0, 2])) (.seq (.reg r1 (some [0, 2, 3, 4])) (.seq (.seq (.reg r2 (some [0, 2, 3, 4, 16])) (.cond (.tmp 16) (.reg r3 (some [0, 2, 3, 4])) .skip)) (.seq (.seq (.reg r4 (some [2, 3, 4, 25])) (.cond (.tmp 25) (.dreg r5 t5 (some [2, 3, 4])) .skip)) (.seq (.reg r6 (some [2, 5, 6])) (.seq (.seq (.reg r7 (some [2, 5, 39])) (.cond (.tmp 39) (.seq (.reg r8 (some [2])) .ret) .skip)) (.seq (.reg r9 (some [2])) .ret)))))))
def ann : Ann := [(0, (some [0, 2], 0, [], [], [])), (1, (some [0, 2, 3, 4], 0, [], [], [])), (2, (some [0, 2, 3, 4, 16], 0, [], [], [])), (3, (some [0, 2, 3, 4], 0, [], [], [])), (4, (some [2, 3, 4, 25], 0, [], [], [])), (5, (some [2, 3, 4], 6, [5], [(0, 0), (1, 0), (2, 0), (3, 0), (4, 0), (5, 2)], [])), (6, (some [2, 5, 6], 0, [], [], [])), (7, (some [2, 5, 39], 0, [], [], [])), (8, (some [2], 0, [], [], [])), (9, (some [2], 0, [], [], []))]
theorem ok : compF Try.prog Try.f23 ann = some (42, c, [(2, some (true, 10))]) := by kernel_rfl
def p1 (S : St) : Prop := ops C r9 (kq [2] R) S
def p3 (S : St) : Prop := ops C r8 (kq [2] R) S
def p2 (S : St) : Prop := condX (S.ev (.tmp 39)) (p3 C R) (p1 C R) S
def p4 (S : St) : Prop := ops C r7 (kq [2, 5, 39] (p2 C R)) S
def p5 (S : St) : Prop := ops C r6 (kq [2, 5, 6] (p4 C R)) S
def p7 (S : St) : Prop := ops C r5 (ops C t5 (kq [2, 3, 4] (p5 C R))) S
def p6 (S : St) : Prop := condX (S.ev (.tmp 25)) (p7 C R) (p5 C R) S
def p8 (S : St) : Prop := ops C r4 (kq [2, 3, 4, 25] (p6 C R)) S
def p10 (S : St) : Prop := ops C r3 (kq [0, 2, 3, 4] (p8 C R)) S
def p9 (S : St) : Prop := condX (S.ev (.tmp 16)) (p10 C R) (p8 C R) S
def p11 (S : St) : Prop := ops C r2 (kq [0, 2, 3, 4, 16] (p9 C R)) S
def p12 (S : St) : Prop := ops C r1 (kq [0, 2, 3, 4] (p11 C R)) S
def p13 (S : St) : Prop := ops C r0 (kq [0, 2] (p12 C R)) S
theorem s (S : St) : X C c (retK R) S = p13 C R S := by kernel_rfl
theorem E : type_of% @r9.eq_1 ∧ type_of% @p1.eq_1 ∧ type_of% @r8.eq_1 ∧ type_of% @p3.eq_1 ∧ type_of% @p2.eq_1 ∧ type_of% @r7.eq_1 ∧ type_of% @p4.eq_1 ∧ type_of% @r6.eq_1 ∧ type_of% @p5.eq_1 ∧ type_of% @r5.eq_1 ∧ type_of% @t5.eq_1 ∧ type_of% @p7.eq_1 ∧ type_of% @p6.eq_1 ∧ type_of% @r4.eq_1 ∧ type_of% @p8.eq_1 ∧ type_of% @r3.eq_1 ∧ type_of% @p10.eq_1 ∧ type_of% @p9.eq_1 ∧ type_of% @r2.eq_1 ∧ type_of% @p11.eq_1 ∧ type_of% @r1.eq_1 ∧ type_of% @p12.eq_1 ∧ type_of% @r0.eq_1 ∧ type_of% @p13.eq_1 ∧ type_of% @s := ⟨@r9.eq_1, @p1.eq_1, @r8.eq_1, @p3.eq_1, @p2.eq_1, @r7.eq_1, @p4.eq_1, @r6.eq_1, @p5.eq_1, @r5.eq_1, @t5.eq_1, @p7.eq_1, @p6.eq_1, @r4.eq_1, @p8.eq_1, @r3.eq_1, @p10.eq_1, @p9.eq_1, @r2.eq_1, @p11.eq_1, @r1.eq_1, @p12.eq_1, @r0.eq_1, @p13.eq_1, @s⟩
end m_Tape__Ratio
end Go.Proofs.Ytlanoclibdhpmaa

/- Tr: What a call of the tape's Ratio gives. -/
namespace Go.Proofs.Ytlanoclibdhpmaa
open Go Go.RowKit Sx
set_option linter.unusedVariables false
set_option linter.unusedSimpArgs false
theorem mkV_cases {b : Bool} {z y : Int} : (mok b z y = true ∧ mkV b z y = .tuple #[RX (mn z y) (mD z y), .bool true]) ∨ (mok b z y = false ∧ mkV b z y = .tuple #[RX 0 0, .bool false]) := by
  unfold mkV
  cases h : mok b z y
  · exact .inr ⟨rfl, rfl⟩
  · exact .inl ⟨rfl, rfl⟩
theorem or_one {x : Int} (h : U64 x) : U64 (IntKind.u64.wrap (BitVec.ofInt IntKind.u64.bits x ||| BitVec.ofInt IntKind.u64.bits 1).toNat) ∧ IntKind.u64.wrap (BitVec.ofInt IntKind.u64.bits x ||| BitVec.ofInt IntKind.u64.bits 1).toNat ≠ 0 := by
  have hlt := (BitVec.ofInt IntKind.u64.bits x ||| BitVec.ofInt IntKind.u64.bits 1).isLt
  have hne : (BitVec.ofInt IntKind.u64.bits x ||| BitVec.ofInt IntKind.u64.bits 1).toNat ≠ 0 := by
    intro e
    rw [BitVec.toNat_or] at e
    have h2 := Nat.or_eq_zero_iff.1 e
    have : (BitVec.ofInt IntKind.u64.bits 1).toNat = 1 := by decide
    omega
  generalize (BitVec.ofInt IntKind.u64.bits x ||| BitVec.ofInt IntKind.u64.bits 1).toNat = n at *
  have hb : (n : Int) < 18446744073709551616 := by
    have : (2 : Nat) ^ IntKind.u64.bits = 18446744073709551616 := by decide
    rw [this] at hlt; omega
  have e : IntKind.u64.wrap (n : Int) = n := IntWalk.u64_in _ (by omega)
  rw [e]
  exact ⟨⟨by omega, by omega⟩, by omega⟩
/-- The Ratio of a valid fraction. -/
def IsR (v : Value) : Prop := ∃ x : Int × Int, Fq x.1 x.2 ∧ v = RX x.1 x.2
set_option maxRecDepth 100000 in
theorem t_ratio (tb : Nat) : TpC 23 [.pointer (some ⟨tb, 0, none⟩)] tb (fun x : Int × Int => Fq x.1 x.2) (fun x => RX x.1 x.2) := by
  intro B Bm w ht
  refine Calls.mono (enterG Try.func23 m_Tape__Ratio.ok (args := [.pointer (some ⟨tb, 0, none⟩)]) (w0 := cut w tb) (T := kX (cut w tb).heap.size [.g (hK w tb B Bm)]) (R := fun v X => (IsR) v ∧ X = kX (cut w tb).heap.size [.g (hK w tb B Bm)]) (by simp) (below_cut (Nat.le_of_lt ht.lt)) (hK_start ht).1 (kX_stab (Sx.cx _ (cut w tb) _) _) (hK_start ht).2 ?run) ?fin; have hk := tpk_h' ht
  case fin =>
    rintro e w' ⟨v, X, rfl, ⟨⟨x, hx, rfl⟩, rfl⟩, hX, hb, -⟩
    obtain ⟨h1, h2⟩ := hK_end hX (List.mem_singleton.2 rfl) hb
    exact ⟨x, hx, rfl, h1, h2⟩
  case run =>
    try dsimp only
    repeat' (first | simp (disch := omega) only [sxE, m_Tape__Ratio.E, Nat.reduceAdd, Nat.reduceEqDiff, Nat.reduceMul, Nat.reduceSub, Int.reduceAdd, Int.reduceSub, Int.reduceMul, Int.reduceNeg, Int.reduceLT, Int.reduceLE, Int.reduceEq, Int.reduceToNat, ↓reduceIte, Int.reducePow, Nat.reduceLeDiff, Nat.reduceLT, ne_eq, eq_self, List.length_cons, List.length_nil, qxE])
    refine asks_tc rfl (hk) (t_next tb (by decide) (by decide)) en_m_Tape__Next rfl (by first | exact List.mem_singleton.2 rfl | simp) rfl (by first | exact fun j hj => .inl (List.mem_singleton.1 hj) | simp) ?_
    intro r1 ⟨a1, a2⟩
    have i1 : I64 (r1 - 100) := ⟨by omega, by omega⟩
    repeat' (first | simp (disch := omega) only [sxE, m_Tape__Ratio.E, Nat.reduceAdd, Nat.reduceEqDiff, Nat.reduceMul, Nat.reduceSub, Int.reduceAdd, Int.reduceSub, Int.reduceMul, Int.reduceNeg, Int.reduceLT, Int.reduceLE, Int.reduceEq, Int.reduceToNat, ↓reduceIte, Int.reducePow, Nat.reduceLeDiff, Nat.reduceLT, ne_eq, eq_self, List.length_cons, List.length_nil, qxE] | (with_reducible refine Sx.call_at (f := 16) (fun W hW => rx_of i1 W) ?_))
    refine asks_tc rfl (hk) (t_next tb (by decide) (by decide)) en_m_Tape__Next rfl (by first | exact List.mem_singleton.2 rfl | simp) rfl (by first | exact fun j hj => .inl (List.mem_singleton.1 hj) | simp) ?_
    intro r2 ⟨b1, b2⟩
    have i2 : I64 (1 + r2) := ⟨by omega, by omega⟩
    have f1 := (bd_i64 i1).fits
    have f2 := (bd_i64 i2).fits
    repeat' (first | simp (disch := omega) only [sxE, m_Tape__Ratio.E, Nat.reduceAdd, Nat.reduceEqDiff, Nat.reduceMul, Nat.reduceSub, Int.reduceAdd, Int.reduceSub, Int.reduceMul, Int.reduceNeg, Int.reduceLT, Int.reduceLE, Int.reduceEq, Int.reduceToNat, ↓reduceIte, Int.reducePow, Nat.reduceLeDiff, Nat.reduceLT, ne_eq, eq_self, List.length_cons, List.length_nil, qxE] | (with_reducible refine Sx.call_at (f := 16) (fun W hW => rx_of i2 W) ?_))
    have bN := bd_i64 i1
    have bD := bd_i64 i2
    have dne : 1 + r2 ≠ 0 := by omega
    refine asks_tc rfl (hk) (t_bool tb (by decide) (by decide)) en_m_Tape__Bool rfl (by first | exact List.mem_singleton.2 rfl | simp) rfl (by first | exact fun j hj => .inl (List.mem_singleton.1 hj) | simp) ?_
    rintro (_ | _) -
    case' true =>
      repeat' (first | simp (disch := omega) only [sxE, m_Tape__Ratio.E, Nat.reduceAdd, Nat.reduceEqDiff, Nat.reduceMul, Nat.reduceSub, Int.reduceAdd, Int.reduceSub, Int.reduceMul, Int.reduceNeg, Int.reduceLT, Int.reduceLE, Int.reduceEq, Int.reduceToNat, ↓reduceIte, Int.reducePow, Nat.reduceLeDiff, Nat.reduceLT, ne_eq, eq_self, List.length_cons, List.length_nil, qxE])
      refine asks_tc rfl (hk) (t_int tb) en_m_Tape__Int rfl (by first | exact List.mem_singleton.2 rfl | simp) rfl (by first | exact fun j hj => .inl (List.mem_singleton.1 hj) | simp) ?_
      intro z hz
      clear bN bD dne i1 i2 f1 f2 a1 a2 b1 b2
      repeat' (first | simp (disch := omega) only [sxE, m_Tape__Ratio.E, Nat.reduceAdd, Nat.reduceEqDiff, Nat.reduceMul, Nat.reduceSub, Int.reduceAdd, Int.reduceSub, Int.reduceMul, Int.reduceNeg, Int.reduceLT, Int.reduceLE, Int.reduceEq, Int.reduceToNat, ↓reduceIte, Int.reducePow, Nat.reduceLeDiff, Nat.reduceLT, ne_eq, eq_self, List.length_cons, List.length_nil, qxE] | (with_reducible refine Sx.call_at (f := 16) (fun W hW => rx_of hz W) ?_))
      refine asks_tc rfl (hk) (t_word tb) en_m_Tape__Word rfl (by first | exact List.mem_singleton.2 rfl | simp) rfl (by first | exact fun j hj => .inl (List.mem_singleton.1 hj) | simp) ?_
      intro y hy
      obtain ⟨o1, o2⟩ := or_one hy
      have bN := bd_i64 hz
      have bD := bd_u64 o1
      have dne := o2
      have i1 : True := trivial
      have i2 : True := trivial
      have a1 : True := trivial
      have a2 : True := trivial
      have b1 : True := trivial
      have b2 : True := trivial
      have f1 := bN.fits
      have f2 := bD.fits
      repeat' (first | simp (disch := omega) only [sxE, m_Tape__Ratio.E, Nat.reduceAdd, Nat.reduceEqDiff, Nat.reduceMul, Nat.reduceSub, Int.reduceAdd, Int.reduceSub, Int.reduceMul, Int.reduceNeg, Int.reduceLT, Int.reduceLE, Int.reduceEq, Int.reduceToNat, ↓reduceIte, Int.reducePow, Nat.reduceLeDiff, Nat.reduceLT, ne_eq, eq_self, List.length_cons, List.length_nil, qxE])
      generalize IntKind.u64.wrap (BitVec.ofInt IntKind.u64.bits y ||| BitVec.ofInt IntKind.u64.bits 1).toNat = D at *
      repeat' (first | simp (disch := omega) only [sxE, m_Tape__Ratio.E, Nat.reduceAdd, Nat.reduceEqDiff, Nat.reduceMul, Nat.reduceSub, Int.reduceAdd, Int.reduceSub, Int.reduceMul, Int.reduceNeg, Int.reduceLT, Int.reduceLE, Int.reduceEq, Int.reduceToNat, ↓reduceIte, Int.reducePow, Nat.reduceLeDiff, Nat.reduceLT, ne_eq, eq_self, List.length_cons, List.length_nil, qxE] | (with_reducible refine Sx.call_at (f := 31) (fun W hW => rx_ofU o1 W) ?_))
    case' false =>
      repeat' (first | simp (disch := omega) only [sxE, m_Tape__Ratio.E, Nat.reduceAdd, Nat.reduceEqDiff, Nat.reduceMul, Nat.reduceSub, Int.reduceAdd, Int.reduceSub, Int.reduceMul, Int.reduceNeg, Int.reduceLT, Int.reduceLE, Int.reduceEq, Int.reduceToNat, ↓reduceIte, Int.reducePow, Nat.reduceLeDiff, Nat.reduceLT, ne_eq, eq_self, List.length_cons, List.length_nil, qxE])
    all_goals
      clear i1 i2 a1 a2 b1 b2
      refine asks_tc rfl (hk) (t_bool tb (by decide) (by decide)) en_m_Tape__Bool rfl (by first | exact List.mem_singleton.2 rfl | simp) rfl (by first | exact fun j hj => .inl (List.mem_singleton.1 hj) | simp) ?_
      rintro (_ | _) -
      case' true =>
        have i62 : I64 4611686018427387904 := ⟨by decide, by decide⟩
        have f3 := (bd_mul bN (bd_i64 i62)).fits
        have f62 := (bd_i64 i62).fits
        repeat' (first | simp (disch := omega) only [sxE, m_Tape__Ratio.E, Nat.reduceAdd, Nat.reduceEqDiff, Nat.reduceMul, Nat.reduceSub, Int.reduceAdd, Int.reduceSub, Int.reduceMul, Int.reduceNeg, Int.reduceLT, Int.reduceLE, Int.reduceEq, Int.reduceToNat, ↓reduceIte, Int.reducePow, Nat.reduceLeDiff, Nat.reduceLT, ne_eq, eq_self, List.length_cons, List.length_nil, qxE] | (with_reducible refine Sx.call_at (f := 16) (fun W hW => rx_of i62 W) ?_) | (with_reducible refine Sx.call_at (f := 29) (fun W hW => rx_mul f1 f62 f3 W) ?_))
        clear f1 bN i62 f62
        have f1 := f3
        clear f3
        have bN := True.intro
      case' false =>
        repeat' (first | simp (disch := omega) only [sxE, m_Tape__Ratio.E, Nat.reduceAdd, Nat.reduceEqDiff, Nat.reduceMul, Nat.reduceSub, Int.reduceAdd, Int.reduceSub, Int.reduceMul, Int.reduceNeg, Int.reduceLT, Int.reduceLE, Int.reduceEq, Int.reduceToNat, ↓reduceIte, Int.reducePow, Nat.reduceLeDiff, Nat.reduceLT, ne_eq, eq_self, List.length_cons, List.length_nil, qxE])
      all_goals
        clear bN
        have mk1 := fun W => rx_rmake f1.rw f2.rw W
        rcases mkV_cases (b := true && true) with ⟨hm, e⟩ | ⟨hm, e⟩
        · rw [e] at mk1
          have hq := mok_fq hm
          clear e hm
          repeat' (first | simp (disch := omega) only [sxE, m_Tape__Ratio.E, Nat.reduceAdd, Nat.reduceEqDiff, Nat.reduceMul, Nat.reduceSub, Int.reduceAdd, Int.reduceSub, Int.reduceMul, Int.reduceNeg, Int.reduceLT, Int.reduceLE, Int.reduceEq, Int.reduceToNat, ↓reduceIte, Int.reducePow, Nat.reduceLeDiff, Nat.reduceLT, ne_eq, eq_self, List.length_cons, List.length_nil, qxE] | (with_reducible refine Sx.call_at (f := 20) (fun W hW => mk1 W) ?_))
          exact ⟨(_, _), hq, rfl⟩
        · rw [e] at mk1
          clear e hm
          repeat' (first | simp (disch := omega) only [sxE, m_Tape__Ratio.E, Nat.reduceAdd, Nat.reduceEqDiff, Nat.reduceMul, Nat.reduceSub, Int.reduceAdd, Int.reduceSub, Int.reduceMul, Int.reduceNeg, Int.reduceLT, Int.reduceLE, Int.reduceEq, Int.reduceToNat, ↓reduceIte, Int.reducePow, Nat.reduceLeDiff, Nat.reduceLT, ne_eq, eq_self, List.length_cons, List.length_nil, qxE] | (with_reducible refine Sx.call_at (f := 20) (fun W hW => mk1 W) ?_) | (with_reducible refine Sx.call_at (f := 37) (fun W hW => rx_rof i64_one W) ?_))
          exact ⟨(1, 1), fq_int (bd_le bd_one (by decide)), rfl⟩
end Go.Proofs.Ytlanoclibdhpmaa

/- Rw: Make on atoms; raw Wides and Ratios as arguments. -/
namespace Go.Proofs.Ytlanoclibdhpmaa
open Go Go.RowKit Sx
set_option linter.unusedVariables false
set_option linter.unusedSimpArgs false
theorem rx_make {z y : Int} (h : Fits z) (h' : Fits y) (W : World) : Gives Try.prog 20 [WX z, WX y] W (· = mkV true z y) := rx_rmake h.rw h'.rw W
theorem mkV_yes {z y : Int} (h : mok true z y = true) : mkV true z y = .tuple #[RX (mn z y) (mD z y), .bool true] := by unfold mkV; rw [if_pos h]
theorem fits_i64 {x : Int} (h : I64 x) : Fits x := (bd_i64 h).fits
theorem i64n (n : Int) (h : -1000000 ≤ n ∧ n ≤ 1000000) : I64 n := ⟨by omega, by omega⟩
end Go.Proofs.Ytlanoclibdhpmaa

/- Spl: Plain facts of the simplest fraction of an interval. -/
namespace Go.Proofs.Ytlanoclibdhpmaa
set_option linter.unusedVariables false
set_option linter.unusedSimpArgs false
/-- The simplest fraction from a / b to c / d, both greater than 0. -/
def sp : Nat → Int → Int → Int → Int → Int × Int
  | 0, _, _, _, _ => (0, 0)
  | n + 1, a, b, c, d =>
    if a % b = 0 then (a / b, 1)
    else if a / b < c / d then (a / b + 1, 1)
    else (a / b * (sp n d (c % d) b (a % b)).1 + (sp n d (c % d) b (a % b)).2, (sp n d (c % d) b (a % b)).1)
structure SpP (a b c d x y : Int) : Prop where
  px : 0 < x
  py : 0 < y
  gc : gc x y = 1
  lo : a * y ≤ x * b
  hi : x * d ≤ c * y
  least : ∀ u v, 0 < v → a * v ≤ u * b → u * d ≤ c * v → x ≤ u ∧ y ≤ v
theorem gc_one (x : Int) : gc x 1 = 1 := by unfold gc; rw [Int.gcd_one_right]; rfl
theorem gc_lin (q n m : Int) : gc (q * n + m) n = gc n m := by
  rw [gc_sym]
  unfold gc
  rw [Int.gcd_mul_right_add_right]
/-- What the interval of the inverses of the rests is. -/
theorem sp_facts {a b c d : Int} (hb : 0 < b) (hd : 0 < d) (ha : 0 < a) (h : a * d ≤ c * b) (h1 : a % b ≠ 0) (h2 : ¬ a / b < c / d) :
    0 < a % b ∧ a % b < b ∧ 0 < c % d ∧ c % d < d ∧ a = a / b * b + a % b ∧ c = a / b * d + c % d ∧ 0 ≤ a / b ∧ d * (a % b) ≤ b * (c % d) := by
  have e1 := Int.mul_ediv_add_emod a b
  have e2 := Int.mul_ediv_add_emod c d
  have r1 := Int.emod_nonneg a (Int.ne_of_gt hb)
  have r2 := Int.emod_lt_of_pos a hb
  have r3 := Int.emod_nonneg c (Int.ne_of_gt hd)
  have r4 := Int.emod_lt_of_pos c hd
  have hq0 := Int.ediv_nonneg (Int.le_of_lt ha) (Int.le_of_lt hb)
  have hle : a / b ≤ c / d := by
    refine le_fl hd ?_
    refine mul_le_cancel hb ?_
    have := fl_le (x := a) hb
    have e3 : b * (a / b * d) = a / b * b * d := by rw [Int.mul_left_comm, Int.mul_assoc]
    have e4 := Int.mul_le_mul_of_nonneg_right this.1 (Int.le_of_lt hd)
    rw [e3, Int.mul_comm b c]
    omega
  have heq : c / d = a / b := by omega
  rw [Int.mul_comm] at e1 e2
  rw [heq] at e2
  generalize a / b = q at *
  generalize a % b = r at *
  generalize c % d = s at *
  have key : d * r ≤ b * s := by
    have h3 : (q * b + r) * d ≤ (q * d + s) * b := by rw [e1, e2]; exact h
    rw [Int.add_mul, Int.add_mul, Int.mul_right_comm q d b, Int.mul_comm r d, Int.mul_comm s b] at h3
    omega
  refine ⟨by omega, r2, ?_, r4, e1.symm, e2.symm, hq0, key⟩
  rcases Int.lt_or_eq_of_le r3 with h | h
  · exact h
  · rw [← h, Int.mul_zero] at key
    have : 0 < d * r := Int.mul_pos hd (by omega)
    omega
theorem sp_spec : ∀ (n : Nat) (a b c d : Int), 0 < b → 0 < d → 0 < a → a * d ≤ c * b → b + d ≤ n → SpP a b c d (sp n a b c d).1 (sp n a b c d).2
  | 0, a, b, c, d, hb, hd, _, _, hn => by omega
  | n + 1, a, b, c, d, hb, hd, ha, h, hn => by
    unfold sp
    have fa := fl_le (x := a) hb
    have fc := fl_le (x := c) hd
    have hq0 := Int.ediv_nonneg (Int.le_of_lt ha) (Int.le_of_lt hb)
    by_cases h1 : a % b = 0
    · rw [if_pos h1]
      have e1 := Int.mul_ediv_add_emod a b
      rw [h1, Int.add_zero, Int.mul_comm] at e1
      generalize a / b = q at *
      have hq : 0 < q := by
        rcases Int.lt_or_eq_of_le hq0 with h | h
        · exact h
        · rw [← h, Int.zero_mul] at e1; omega
      refine ⟨hq, Int.one_pos, gc_one q, ?_, ?_, fun u v hv h3 h4 => ?_⟩
      · show a * 1 ≤ q * b
        omega
      · show q * d ≤ c * 1
        refine mul_le_cancel hb ?_
        rw [← e1] at h
        rw [Int.mul_left_comm, Int.mul_one, ← Int.mul_assoc, Int.mul_comm b c]
        exact h
      · refine ⟨?_, by show (1 : Int) ≤ v; omega⟩
        show q ≤ u
        have h5 : q * v ≤ u := by
          refine mul_le_cancel hb ?_
          rw [← e1] at h3
          rw [Int.mul_left_comm, ← Int.mul_assoc, Int.mul_comm b u]
          exact h3
        have h6 := Int.mul_le_mul_of_nonneg_left (show 1 ≤ v by omega) (Int.le_of_lt hq)
        omega
    · rw [if_neg h1]
      have e1 := Int.mul_ediv_add_emod a b
      have r1 := Int.emod_nonneg a (Int.ne_of_gt hb)
      rw [Int.mul_comm] at e1
      by_cases h2 : a / b < c / d
      · rw [if_pos h2]
        refine ⟨?_, Int.one_pos, gc_one _, ?_, ?_, fun u v hv h3 h4 => ⟨?_, by show (1 : Int) ≤ v; omega⟩⟩
        · show 0 < a / b + 1
          omega
        · show a * 1 ≤ (a / b + 1) * b
          rw [Int.add_mul]; omega
        · show (a / b + 1) * d ≤ c * 1
          have := Int.mul_le_mul_of_nonneg_right (show a / b + 1 ≤ c / d by omega) (Int.le_of_lt hd)
          omega
        · show a / b + 1 ≤ u
          have h5 : a / b * v < u := by
            rcases Int.lt_or_le (a / b * v) u with h6 | h6
            · exact h6
            · exfalso
              have h7 := Int.mul_le_mul_of_nonneg_right h6 (Int.le_of_lt hb)
              have h8 : a * v = a / b * v * b + a % b * v := by
                have e2 : (a / b * b + a % b) * v = a * v := by rw [e1]
                rw [← e2, Int.add_mul, Int.mul_right_comm]
              have h9 : 0 < a % b * v := Int.mul_pos (by omega) hv
              omega
          have h6 := Int.mul_le_mul_of_nonneg_left (show 1 ≤ v by omega) hq0
          omega
      · rw [if_neg h2]
        obtain ⟨f1, f2, f3, f4, f5, f6, f7, f8⟩ := sp_facts hb hd ha h h1 h2
        have ih := sp_spec n d (c % d) b (a % b) f3 f1 hd f8 (by omega)
        generalize hQ : a / b = q at *
        generalize a % b = r at *
        generalize c % d = s at *
        generalize (sp n d s b r).1 = x at *
        generalize (sp n d s b r).2 = y at *
        obtain ⟨i1, i2, i3, i4, i5, i6⟩ := ih
        have hqx := Int.mul_nonneg f7 (Int.le_of_lt i1)
        refine ⟨?_, i1, ?_, ?_, ?_, fun u v hv h3 h4 => ?_⟩
        · show 0 < q * x + y
          omega
        · show gc (q * x + y) x = 1
          rw [gc_lin]; exact i3
        · show a * x ≤ (q * x + y) * b
          rw [f5, Int.add_mul, Int.add_mul, Int.mul_right_comm q b x, Int.mul_comm r x, Int.mul_comm y b]
          omega
        · show (q * x + y) * d ≤ c * x
          rw [f6, Int.add_mul, Int.add_mul, Int.mul_right_comm q d x, Int.mul_comm y d, Int.mul_comm s x]
          omega
        · have e3 : a * v = q * v * b + r * v := by rw [f5, Int.add_mul, Int.mul_right_comm]
          have e4 : c * v = q * v * d + s * v := by rw [f6, Int.add_mul, Int.mul_right_comm]
          have e5 : (u - q * v) * b = u * b - q * v * b := Int.sub_mul _ _ _
          have e6 : (u - q * v) * d = u * d - q * v * d := Int.sub_mul _ _ _
          have hr : 0 < r * v := Int.mul_pos f1 hv
          have hu : 0 < u - q * v := by
            rcases Int.lt_or_le 0 (u - q * v) with h6 | h6
            · exact h6
            · exfalso
              have := Int.mul_le_mul_of_nonneg_right h6 (Int.le_of_lt hb)
              omega
          have k := i6 v (u - q * v) hu (by rw [Int.mul_comm d, Int.mul_comm v s]; omega) (by rw [Int.mul_comm v r, Int.mul_comm b]; omega)
          refine ⟨?_, k.1⟩
          show q * x + y ≤ u
          have := Int.mul_le_mul_of_nonneg_left k.1 f7
          omega
/-- The simplest fraction from p / q to p' / q'. -/
def spx (p q p' q' : Int) : Int × Int := sp (q + q').toNat p q p' q'
def btx (p q p' q' : Int) : Int × Int := if p' < 0 then (-(spx (-p') q' (-p) q).1, (spx (-p') q' (-p) q).2) else if p ≤ 0 then (0, 1) else spx p q p' q'
theorem spx_spec {p q p' q' : Int} (hq : 0 < q) (hq' : 0 < q') (hp : 0 < p) (h : p * q' ≤ p' * q) : SpP p q p' q' (spx p q p' q').1 (spx p q p' q').2 := sp_spec _ _ _ _ _ hq hq' hp h (by omega)
/-- One fraction is simpler than another. -/
def smp (p q p' q' : Int) : Bool := decide (q < q') || (decide (q = q') && decide (ab p < ab p'))
structure BtP (p q p' q' x y : Int) : Prop where
  fq : Fq x y
  lo : p * y ≤ x * q
  hi : x * q' ≤ p' * y
  least : ∀ u v, 0 < v → p * v ≤ u * q → u * q' ≤ p' * v → ab x ≤ ab u ∧ y ≤ v
theorem btx_spec {p q p' q' : Int} (f : Fq p q) (f' : Fq p' q') (h : p * q' ≤ p' * q) : BtP p q p' q' (btx p q p' q').1 (btx p q p' q').2 := by
  unfold btx
  have hq := f.pos
  have hq' := f'.pos
  by_cases h1 : p' < 0
  · rw [if_pos h1]
    have h2 : -p' * q ≤ -p * q' := by rw [Int.neg_mul, Int.neg_mul]; omega
    have s := spx_spec hq' hq (show 0 < -p' by omega) h2
    generalize (spx (-p') q' (-p) q).1 = x at *
    generalize (spx (-p') q' (-p) q).2 = y at *
    obtain ⟨i1, i2, i3, i4, i5, i6⟩ := s
    have k := i6 (-p') q' hq' (Int.le_refl _) h2
    dsimp only
    rw [Int.neg_mul] at i4 i5
    refine ⟨⟨i2, bd_of_le f'.bp ?_, bd_of_le f'.bq ?_, ?_⟩, ?_, ?_, fun u v hv h3 h4 => ?_⟩
    · unfold ab; (repeat' split) <;> omega
    · rw [ab_pos (Int.le_of_lt i2), ab_pos (Int.le_of_lt hq')]; exact k.2
    · rw [gc_neg]; exact i3
    · rw [Int.neg_mul]; omega
    · rw [Int.neg_mul]; omega
    · have := i6 (-u) v hv (by simp only [Int.neg_mul]; omega) (by simp only [Int.neg_mul]; omega)
      refine ⟨?_, this.2⟩
      have hu := this.1
      unfold ab; (repeat' split) <;> omega
  · rw [if_neg h1]
    by_cases h2 : p ≤ 0
    · rw [if_pos h2]
      dsimp only
      refine ⟨fq_zero, by rw [Int.mul_one, Int.zero_mul]; exact h2, by rw [Int.mul_one, Int.zero_mul]; omega, fun u v hv _ _ => ⟨?_, by omega⟩⟩
      rw [show ab 0 = 0 from rfl]; exact ab_nonneg u
    · rw [if_neg h2]
      have s := spx_spec hq hq' (by omega) h
      generalize (spx p q p' q').1 = x at *
      generalize (spx p q p' q').2 = y at *
      obtain ⟨i1, i2, i3, i4, i5, i6⟩ := s
      have k := i6 p q hq (Int.le_refl _) h
      refine ⟨⟨i2, bd_of_le f.bp ?_, bd_of_le f.bq ?_, i3⟩, i4, i5, fun u v hv h3 h4 => ?_⟩
      · rw [ab_pos (Int.le_of_lt i1), ab_pos (show 0 ≤ p by omega)]; exact k.1
      · rw [ab_pos (Int.le_of_lt i2), ab_pos (Int.le_of_lt hq)]; exact k.2
      · have := i6 u v hv h3 h4
        exact ⟨by unfold ab; (repeat' split) <;> omega, this.2⟩
theorem btx_turned (p q p' q' : Int) (f : Fq p q) (f' : Fq p' q') (h : p * q' ≤ p' * q) : (btx (-p') q' (-p) q).1 = -(btx p q p' q').1 ∧ (btx (-p') q' (-p) q).2 = (btx p q p' q').2 := by
  have key : p' < 0 → p < 0 := fun h1 => by
    rcases Int.lt_or_le p 0 with hh | hh
    · exact hh
    · exfalso
      have h5 := Int.mul_nonneg hh (Int.le_of_lt f'.pos)
      have h6 := Int.mul_neg_of_neg_of_pos h1 f.pos
      omega
  unfold btx
  by_cases h1 : p' < 0
  · have := key h1
    rw [if_pos h1, if_neg (by omega), if_neg (by omega)]
    dsimp only
    rw [Int.neg_neg]
    exact ⟨rfl, rfl⟩
  · rw [if_neg h1]
    by_cases h2 : p ≤ 0
    · rw [if_pos h2, if_neg (by omega), if_pos (by omega)]
      exact ⟨rfl, rfl⟩
    · rw [if_neg h2, if_pos (by omega), Int.neg_neg, Int.neg_neg]
      exact ⟨rfl, rfl⟩
theorem btx_zero {p q p' q' : Int} (f : Fq p q) (f' : Fq p' q') (h : p * q' ≤ p' * q) : (p ≤ 0 ∧ 0 ≤ p') ↔ (btx p q p' q').1 = 0 := by
  unfold btx
  by_cases h1 : p' < 0
  · rw [if_pos h1]
    have h2 : -p' * q ≤ -p * q' := by rw [Int.neg_mul, Int.neg_mul]; omega
    have s := (spx_spec f'.pos f.pos (show 0 < -p' by omega) h2).px
    dsimp only
    omega
  · rw [if_neg h1]
    by_cases h2 : p ≤ 0
    · rw [if_pos h2]; dsimp only; omega
    · rw [if_neg h2]
      have s := (spx_spec f.pos f'.pos (show 0 < p by omega) h).px
      omega
end Go.Proofs.Ytlanoclibdhpmaa

/- Sq: What calls of simplest and of its reference give. -/
namespace Go.Proofs.Ytlanoclibdhpmaa
open Go Go.RowKit Sx
set_option linter.unusedVariables false
set_option linter.unusedSimpArgs false
theorem gx_negative {p q : Int} (h : Fits p) (W : World) : Gives Try.prog 80 [RX p q] W (· = RX (-p) q) := by
  refine gives_known en_simplest_negative ?_
  refine known_of (enter Try.func80 simplest_negative.ok (args := [_]) (by simp) ?_)
  repeat' (first | simp (disch := omega) only [sxE, simplest_negative.E, Nat.reduceAdd, Nat.reduceEqDiff, Nat.reduceMul, Nat.reduceSub, Int.reduceAdd, Int.reduceSub, Int.reduceMul, Int.reduceNeg, Int.reduceLT, Int.reduceLE, Int.reduceEq, Int.reduceToNat, ↓reduceIte, Int.reducePow, Nat.reduceLeDiff, Nat.reduceLT, ne_eq, eq_self, List.length_cons, List.length_nil, qxE] | (with_reducible refine Sx.call_at (f := 53) (fun W hW => gx_neg h W) ?_))
theorem bd_nn {k : Nat} {x y : Int} (h : Bd k x) (h0 : 0 ≤ y) (hle : y ≤ x) : Bd k y := bd_of_le h (by rw [ab_pos h0, ab_pos (by omega)]; exact hle)
set_option maxRecDepth 100000 in
theorem gx_positive : ∀ (n : Nat) {a b c d : Int}, Bd 127 a → Bd 127 b → Bd 127 c → Bd 127 d → 0 < b → 0 < d → 0 < a → a * d ≤ c * b → b + d ≤ n → ∀ W, Gives Try.prog 81 [RX a b, RX c d] W (· = RX (sp n a b c d).1 (sp n a b c d).2)
  | 0, a, b, c, d, _, _, _, _, hb, hd, _, _, hn => fun W => by omega
  | n + 1, a, b, c, d, ba, bb, bc, bd, hb, hd, ha, h, hn => fun W => by
    have hbn : b ≠ 0 := by omega
    have hdn : d ≠ 0 := by omega
    have m1 := fun W => gx_divmod ba.fits bb.fits hbn W
    have m2 := fun W => gx_divmod bc.fits bd.fits hdn W
    have fr := fits_emod (z := a) bb.fits hbn
    have fq := fits_ediv ba.fits hbn
    have fq2 := fits_ediv bc.fits hdn
    have hc := cm_zero_iff (a % b)
    refine gives_known en_simplest_positive ?_
    unfold sp
    by_cases h1 : a % b = 0
    · rw [if_pos h1]
      have hc0 := hc.2 h1
      clear hc
      refine known_of (enter Try.func81 simplest_positive.ok (args := [_, _]) (by simp) ?_)
      repeat' (first | simp (disch := omega) only [sxE, simplest_positive.E, Nat.reduceAdd, Nat.reduceEqDiff, Nat.reduceMul, Nat.reduceSub, Int.reduceAdd, Int.reduceSub, Int.reduceMul, Int.reduceNeg, Int.reduceLT, Int.reduceLE, Int.reduceEq, Int.reduceToNat, ↓reduceIte, Int.reducePow, Nat.reduceLeDiff, Nat.reduceLT, ne_eq, eq_self, List.length_cons, List.length_nil, qxE, hc0] | (with_reducible refine Sx.call_at (f := 55) (fun W hW => m1 W) ?_) | (with_reducible refine Sx.call_at (f := 52) (fun W hW => gx_sign fr W) ?_) | (with_reducible refine Sx.call_at (f := 60) (fun W hW => gx_of i64_one W) ?_))
    · rw [if_neg h1]
      have hc0 : cm (a % b) 0 ≠ 0 := fun e => h1 (hc.1 e)
      have hgt := km_gt (c / d) (a / b)
      have hq0 := Int.ediv_nonneg (Int.le_of_lt ha) (Int.le_of_lt hb)
      clear hc
      by_cases h2 : a / b < c / d
      · rw [if_pos h2]
        have hg := hgt.2 h2
        have bq : Bd 127 (a / b) := bd_nn ba hq0 (Int.ediv_le_self _ (Int.le_of_lt ha))
        have fs : Fits (a / b + 1) := (bd_add (c := 128) bq (bd_le bd_one (show 1 ≤ 127 by decide)) (by decide) (by decide)).fits
        clear hgt
        refine known_of (enter Try.func81 simplest_positive.ok (args := [_, _]) (by simp) ?_)
        repeat' (first | simp (disch := omega) only [sxE, simplest_positive.E, Nat.reduceAdd, Nat.reduceEqDiff, Nat.reduceMul, Nat.reduceSub, Int.reduceAdd, Int.reduceSub, Int.reduceMul, Int.reduceNeg, Int.reduceLT, Int.reduceLE, Int.reduceEq, Int.reduceToNat, ↓reduceIte, Int.reducePow, Nat.reduceLeDiff, Nat.reduceLT, ne_eq, eq_self, List.length_cons, List.length_nil, qxE] | (with_reducible refine Sx.call_at (f := 55) (fun W hW => m1 W) ?_) | (with_reducible refine Sx.call_at (f := 55) (fun W hW => m2 W) ?_) | (with_reducible refine Sx.call_at (f := 52) (fun W hW => gx_sign fr W) ?_) | (with_reducible refine Sx.call_at (f := 60) (fun W hW => gx_of i64_one W) ?_) | (with_reducible refine Sx.call_at (f := 70) (fun W hW => gx_compare fq2 fq W) ?_) | (with_reducible refine Sx.call_at (f := 62) (fun W hW => gx_add fq fits_one fs W) ?_))
      · rw [if_neg h2]
        have hg : ¬ 0 < cm (c / d) (a / b) := fun e => h2 (hgt.1 e)
        obtain ⟨f1, f2, f3, f4, f5, f6, f7, f8⟩ := sp_facts hb hd ha h h1 h2
        have b1 := bd_nn bb (Int.le_of_lt f1) (Int.le_of_lt f2)
        have b2 := bd_nn bd (Int.le_of_lt f3) (Int.le_of_lt f4)
        have ih := gx_positive n bd b2 bb b1 f3 f1 hd f8 (by omega)
        have hsp := sp_spec n d (c % d) b (a % b) f3 f1 hd f8 (by omega)
        generalize (sp n d (c % d) b (a % b)).1 = x at *
        generalize (sp n d (c % d) b (a % b)).2 = y at *
        have k := hsp.least d (c % d) f3 (Int.le_refl _) f8
        have k2 := hsp.least b (a % b) f1 f8 (Int.le_refl _)
        have px := hsp.px
        have py := hsp.py
        have fx := (bd_nn bd (Int.le_of_lt px) k.1).fits
        have fy := (bd_nn b2 (Int.le_of_lt py) k.2).fits
        have hmx := Int.mul_nonneg f7 (Int.le_of_lt px)
        have hmb := Int.mul_le_mul_of_nonneg_left k2.1 f7
        have fm : Fits (a / b * x) := (bd_nn ba hmx (by omega)).fits
        have fs : Fits (a / b * x + y) := (bd_nn ba (by omega) (by omega)).fits
        clear hgt hsp k k2 hmx hmb b1 b2 f1 f2 f3 f4 f5 f6 f7 f8 hq0
        refine known_of (enter Try.func81 simplest_positive.ok (args := [_, _]) (by simp) ?_)
        repeat' (first | simp (disch := omega) only [sxE, simplest_positive.E, Nat.reduceAdd, Nat.reduceEqDiff, Nat.reduceMul, Nat.reduceSub, Int.reduceAdd, Int.reduceSub, Int.reduceMul, Int.reduceNeg, Int.reduceLT, Int.reduceLE, Int.reduceEq, Int.reduceToNat, ↓reduceIte, Int.reducePow, Nat.reduceLeDiff, Nat.reduceLT, ne_eq, eq_self, List.length_cons, List.length_nil, qxE] | (with_reducible refine Sx.call_at (f := 55) (fun W hW => m1 W) ?_) | (with_reducible refine Sx.call_at (f := 55) (fun W hW => m2 W) ?_) | (with_reducible refine Sx.call_at (f := 52) (fun W hW => gx_sign fr W) ?_) | (with_reducible refine Sx.call_at (f := 60) (fun W hW => gx_of i64_one W) ?_) | (with_reducible refine Sx.call_at (f := 70) (fun W hW => gx_compare fq2 fq W) ?_) | (with_reducible refine Sx.call_at (f := 81) (fun W hW => ih W) ?_) | (with_reducible refine Sx.call_at (f := 91) (fun W hW => gx_mul fq fx fm W) ?_) | (with_reducible refine Sx.call_at (f := 62) (fun W hW => gx_add fm fy fs W) ?_))
theorem gx_spx {p q p' q' : Int} (f : Fq p q) (f' : Fq p' q') (hp : 0 < p) (h : p * q' ≤ p' * q) (W : World) : Gives Try.prog 81 [RX p q, RX p' q'] W (· = RX (spx p q p' q').1 (spx p q p' q').2) :=
  gx_positive _ f.bp f.bq f'.bp f'.bq f.pos f'.pos hp h (by have := f.pos; have := f'.pos; omega) W
theorem Fq.v1 {p q : Int} (f : Fq p q) (W : World) : Gives Try.prog 21 [RX p q] W (· = .bool true) := by
  have := gx_rvalid f.fp f.fq W
  rwa [show rok true p q = true from rok_iff.2 ⟨rfl, f⟩] at this
theorem Fq.v2 {p q : Int} (f : Fq p q) (W : World) : Gives Try.prog 42 [RX p q] W (· = .bool true) := by
  have := rx_rvalid f.fp f.fq W
  rwa [show rok true p q = true from rok_iff.2 ⟨rfl, f⟩] at this
/-- What Between returns. -/
def btV (t : Bool) (p q p' q' : Int) : Value := if t && decide (p * q' ≤ p' * q) then .tuple #[RX (btx p q p' q').1 (btx p q p' q').2, .bool true] else .tuple #[RX 0 0, .bool false]
theorem fits_spx {p q p' q' : Int} (f : Fq p q) (f' : Fq p' q') (hp : 0 < p) (h : p * q' ≤ p' * q) : Fits (spx p q p' q').1 ∧ Fits (spx p q p' q').2 := by
  have s := spx_spec f.pos f'.pos hp h
  have k := s.least p q f.pos (Int.le_refl _) h
  exact ⟨(bd_nn f.bp (Int.le_of_lt s.px) k.1).fits, (bd_nn f.bq (Int.le_of_lt s.py) k.2).fits⟩
set_option maxRecDepth 100000 in
theorem gx_between {v v' : Value} {p q p' q' : Int} {t t' : Bool} (h : CQ v p q) (h' : CQ v' p' q') (v1 : ∀ W, Gives Try.prog 21 [v] W (· = .bool t)) (v2 : ∀ W, Gives Try.prog 21 [v'] W (· = .bool t')) (e1 : t = true → v = RX p q) (e2 : t' = true → v' = RX p' q') (W : World) :
    Gives Try.prog 41 [v, v'] W (· = btV (t && t') p q p' q') := by
  obtain ⟨c0, c1, c2, c3, c4, c5, c6, c7, c8, c9, rfl⟩ := h.ten
  obtain ⟨d0, d1, d2, d3, d4, d5, d6, d7, d8, d9, rfl⟩ := h'.ten
  have f := h.fq
  have f' := h'.fq
  have cmp := fun W => gx_rcompare h h' W
  refine gives_known en_simplest_Between ?_
  cases t
  · have e : btV (false && t') p q p' q' = .tuple #[RX 0 0, .bool false] := rfl
    rw [e]
    refine known_of (enter Try.func41 simplest_Between.ok (args := [_, _]) (by simp) ?_)
    repeat' (first | simp (disch := omega) only [sxE, simplest_Between.E, Nat.reduceAdd, Nat.reduceEqDiff, Nat.reduceMul, Nat.reduceSub, Int.reduceAdd, Int.reduceSub, Int.reduceMul, Int.reduceNeg, Int.reduceLT, Int.reduceLE, Int.reduceEq, Int.reduceToNat, ↓reduceIte, Int.reducePow, Nat.reduceLeDiff, Nat.reduceLT, ne_eq, eq_self, List.length_cons, List.length_nil, qxE] | (with_reducible refine Sx.call_at (f := 21) (fun W hW => v1 W) ?_))
  · cases t'
    · have e : btV (true && false) p q p' q' = .tuple #[RX 0 0, .bool false] := rfl
      rw [e]
      refine known_of (enter Try.func41 simplest_Between.ok (args := [_, _]) (by simp) ?_)
      repeat' (first | simp (disch := omega) only [sxE, simplest_Between.E, Nat.reduceAdd, Nat.reduceEqDiff, Nat.reduceMul, Nat.reduceSub, Int.reduceAdd, Int.reduceSub, Int.reduceMul, Int.reduceNeg, Int.reduceLT, Int.reduceLE, Int.reduceEq, Int.reduceToNat, ↓reduceIte, Int.reducePow, Nat.reduceLeDiff, Nat.reduceLT, ne_eq, eq_self, List.length_cons, List.length_nil, qxE] | (with_reducible refine Sx.call_at (f := 21) (fun W hW => v1 W) ?_) | (with_reducible refine Sx.call_at (f := 21) (fun W hW => v2 W) ?_))
    · have e1 := e1 rfl
      have e2 := e2 rfl
      unfold btV
      have hgt := km_gt (p * q') (p' * q)
      by_cases hle : p * q' ≤ p' * q
      · rw [decide_eq_true hle]
        have hg : ¬ 0 < cq p q p' q' := fun hh => by have := hgt.1 hh; omega
        rw [e1] at v1 cmp
        rw [e2] at v2 cmp
        rw [e1, e2]
        have s1 := cm_zero p'
        have s2 := cm_zero p
        unfold btx
        by_cases hneg : p' < 0
        · rw [if_pos hneg]
          have hs : cm p' 0 < 0 := by rw [s1, if_pos hneg]; decide
          have fn := f.neg
          have fn' := f'.neg
          have hle2 : -p' * q ≤ -p * q' := by rw [Int.neg_mul, Int.neg_mul]; omega
          have sp := fun W => gx_spx fn' fn (by omega) hle2 W
          have ft := fits_spx fn' fn (by omega) hle2
          generalize (spx (-p') q' (-p) q).1 = x at *
          generalize (spx (-p') q' (-p) q).2 = y at *
          refine known_of (enter Try.func41 simplest_Between.ok (args := [_, _]) (by simp) ?_)
          repeat' (first | simp (disch := omega) only [sxE, simplest_Between.E, Nat.reduceAdd, Nat.reduceEqDiff, Nat.reduceMul, Nat.reduceSub, Int.reduceAdd, Int.reduceSub, Int.reduceMul, Int.reduceNeg, Int.reduceLT, Int.reduceLE, Int.reduceEq, Int.reduceToNat, ↓reduceIte, Int.reducePow, Nat.reduceLeDiff, Nat.reduceLT, ne_eq, eq_self, List.length_cons, List.length_nil, qxE] | (with_reducible refine Sx.call_at (f := 21) (fun W hW => v1 W) ?_) | (with_reducible refine Sx.call_at (f := 21) (fun W hW => v2 W) ?_) | (with_reducible refine Sx.call_at (f := 30) (fun W hW => cmp W) ?_) | (with_reducible refine Sx.call_at (f := 52) (fun W hW => gx_sign f'.fp W) ?_) | (with_reducible refine Sx.call_at (f := 80) (fun W hW => gx_negative f'.fp W) ?_) | (with_reducible refine Sx.call_at (f := 80) (fun W hW => gx_negative f.fp W) ?_) | (with_reducible refine Sx.call_at (f := 80) (fun W hW => gx_negative ft.1 W) ?_) | (with_reducible refine Sx.call_at (f := 81) (fun W hW => sp W) ?_))
          try rfl
        · rw [if_neg hneg]
          have hs : ¬ cm p' 0 < 0 := by rw [s1, if_neg hneg]; split <;> decide
          by_cases hz : p ≤ 0
          · rw [if_pos hz]
            have hs2 : cm p 0 ≤ 0 := by rw [s2]; (repeat' split) <;> omega
            refine known_of (enter Try.func41 simplest_Between.ok (args := [_, _]) (by simp) ?_)
            repeat' (first | simp (disch := omega) only [sxE, simplest_Between.E, Nat.reduceAdd, Nat.reduceEqDiff, Nat.reduceMul, Nat.reduceSub, Int.reduceAdd, Int.reduceSub, Int.reduceMul, Int.reduceNeg, Int.reduceLT, Int.reduceLE, Int.reduceEq, Int.reduceToNat, ↓reduceIte, Int.reducePow, Nat.reduceLeDiff, Nat.reduceLT, ne_eq, eq_self, List.length_cons, List.length_nil, qxE] | (with_reducible refine Sx.call_at (f := 21) (fun W hW => v1 W) ?_) | (with_reducible refine Sx.call_at (f := 21) (fun W hW => v2 W) ?_) | (with_reducible refine Sx.call_at (f := 30) (fun W hW => cmp W) ?_) | (with_reducible refine Sx.call_at (f := 52) (fun W hW => gx_sign f'.fp W) ?_) | (with_reducible refine Sx.call_at (f := 52) (fun W hW => gx_sign f.fp W) ?_) | (with_reducible refine Sx.call_at (f := 36) (fun W hW => gx_rof i64_zero W) ?_))
            try rfl
          · rw [if_neg hz]
            have hs2 : ¬ cm p 0 ≤ 0 := by rw [s2]; (repeat' split) <;> omega
            have sp := fun W => gx_spx f f' (by omega) hle W
            generalize (spx p q p' q').1 = x at *
            generalize (spx p q p' q').2 = y at *
            refine known_of (enter Try.func41 simplest_Between.ok (args := [_, _]) (by simp) ?_)
            repeat' (first | simp (disch := omega) only [sxE, simplest_Between.E, Nat.reduceAdd, Nat.reduceEqDiff, Nat.reduceMul, Nat.reduceSub, Int.reduceAdd, Int.reduceSub, Int.reduceMul, Int.reduceNeg, Int.reduceLT, Int.reduceLE, Int.reduceEq, Int.reduceToNat, ↓reduceIte, Int.reducePow, Nat.reduceLeDiff, Nat.reduceLT, ne_eq, eq_self, List.length_cons, List.length_nil, qxE] | (with_reducible refine Sx.call_at (f := 21) (fun W hW => v1 W) ?_) | (with_reducible refine Sx.call_at (f := 21) (fun W hW => v2 W) ?_) | (with_reducible refine Sx.call_at (f := 30) (fun W hW => cmp W) ?_) | (with_reducible refine Sx.call_at (f := 52) (fun W hW => gx_sign f'.fp W) ?_) | (with_reducible refine Sx.call_at (f := 52) (fun W hW => gx_sign f.fp W) ?_) | (with_reducible refine Sx.call_at (f := 81) (fun W hW => sp W) ?_))
            try rfl
      · rw [decide_eq_false hle]
        have hg : 0 < cq p q p' q' := hgt.2 (by omega)
        refine known_of (enter Try.func41 simplest_Between.ok (args := [_, _]) (by simp) ?_)
        repeat' (first | simp (disch := omega) only [sxE, simplest_Between.E, Nat.reduceAdd, Nat.reduceEqDiff, Nat.reduceMul, Nat.reduceSub, Int.reduceAdd, Int.reduceSub, Int.reduceMul, Int.reduceNeg, Int.reduceLT, Int.reduceLE, Int.reduceEq, Int.reduceToNat, ↓reduceIte, Int.reducePow, Nat.reduceLeDiff, Nat.reduceLT, ne_eq, eq_self, List.length_cons, List.length_nil, qxE] | (with_reducible refine Sx.call_at (f := 21) (fun W hW => v1 W) ?_) | (with_reducible refine Sx.call_at (f := 21) (fun W hW => v2 W) ?_) | (with_reducible refine Sx.call_at (f := 30) (fun W hW => cmp W) ?_))
        try rfl
theorem smp_eq (p q p' q' : Int) : smp p q p' q' = if cm q q' = 0 then decide (cm (ab p) (ab p') < 0) else decide (cm q q' < 0) := by
  have h1 := km_eq q q'
  have h2 := km_lt q q'
  have h3 := km_lt (ab p) (ab p')
  unfold smp
  by_cases he : q = q'
  · rw [if_pos (h1.2 he), decide_eq_false (show ¬ q < q' by omega), decide_eq_true he]
    rw [Bool.eq_iff_iff]; simp [h3]
  · rw [if_neg (fun e => he (h1.1 e)), decide_eq_false he]
    rw [Bool.eq_iff_iff]; simp [h2]
set_option maxRecDepth 100000 in
theorem gx_simpler {v v' : Value} {p q p' q' : Int} {a b : Bool} (h : CQ v p q) (h' : CQ v' p' q') (v1 : ∀ W, Gives Try.prog 21 [v] W (· = .bool a)) (v2 : ∀ W, Gives Try.prog 21 [v'] W (· = .bool b)) (e1 : a = true → v = RX p q) (e2 : b = true → v' = RX p' q') (W : World) :
    Gives Try.prog 43 [v, v'] W (· = .bool (a && (b && smp p q p' q'))) := by
  obtain ⟨c0, c1, c2, c3, c4, c5, c6, c7, c8, c9, rfl⟩ := h.ten
  obtain ⟨d0, d1, d2, d3, d4, d5, d6, d7, d8, d9, rfl⟩ := h'.ten
  have f := h.fq
  have f' := h'.fq
  refine gives_known en_simplest_Simpler ?_
  cases a
  · refine known_of (enter Try.func43 simplest_Simpler.ok (args := [_, _]) (by simp) ?_)
    repeat' (first | simp (disch := omega) only [sxE, simplest_Simpler.E, Nat.reduceAdd, Nat.reduceEqDiff, Nat.reduceMul, Nat.reduceSub, Int.reduceAdd, Int.reduceSub, Int.reduceMul, Int.reduceNeg, Int.reduceLT, Int.reduceLE, Int.reduceEq, Int.reduceToNat, ↓reduceIte, Int.reducePow, Nat.reduceLeDiff, Nat.reduceLT, ne_eq, eq_self, List.length_cons, List.length_nil, qxE] | (with_reducible refine Sx.call_at (f := 21) (fun W hW => v1 W) ?_))
    try rfl
  · cases b
    · refine known_of (enter Try.func43 simplest_Simpler.ok (args := [_, _]) (by simp) ?_)
      repeat' (first | simp (disch := omega) only [sxE, simplest_Simpler.E, Nat.reduceAdd, Nat.reduceEqDiff, Nat.reduceMul, Nat.reduceSub, Int.reduceAdd, Int.reduceSub, Int.reduceMul, Int.reduceNeg, Int.reduceLT, Int.reduceLE, Int.reduceEq, Int.reduceToNat, ↓reduceIte, Int.reducePow, Nat.reduceLeDiff, Nat.reduceLT, ne_eq, eq_self, List.length_cons, List.length_nil, qxE] | (with_reducible refine Sx.call_at (f := 21) (fun W hW => v1 W) ?_) | (with_reducible refine Sx.call_at (f := 21) (fun W hW => v2 W) ?_))
      try rfl
    · have e1 := e1 rfl
      have e2 := e2 rfl
      rw [e1] at v1
      rw [e2] at v2
      rw [e1, e2, smp_eq]
      have fa := fits_ab f.fp
      have fa' := fits_ab f'.fp
      clear e1 e2 h h'
      by_cases hc : cm q q' = 0
      · rw [if_pos hc]
        refine known_of (enter Try.func43 simplest_Simpler.ok (args := [_, _]) (by simp) ?_)
        repeat' (first | simp (disch := omega) only [sxE, simplest_Simpler.E, Nat.reduceAdd, Nat.reduceEqDiff, Nat.reduceMul, Nat.reduceSub, Int.reduceAdd, Int.reduceSub, Int.reduceMul, Int.reduceNeg, Int.reduceLT, Int.reduceLE, Int.reduceEq, Int.reduceToNat, ↓reduceIte, Int.reducePow, Nat.reduceLeDiff, Nat.reduceLT, ne_eq, eq_self, List.length_cons, List.length_nil, qxE] | (with_reducible refine Sx.call_at (f := 21) (fun W hW => v1 W) ?_) | (with_reducible refine Sx.call_at (f := 21) (fun W hW => v2 W) ?_) | (with_reducible refine Sx.call_at (f := 70) (fun W hW => gx_compare f.fq f'.fq W) ?_) | (with_reducible refine Sx.call_at (f := 70) (fun W hW => gx_compare fa fa' W) ?_))
        try rfl
      · rw [if_neg hc]
        refine known_of (enter Try.func43 simplest_Simpler.ok (args := [_, _]) (by simp) ?_)
        repeat' (first | simp (disch := omega) only [sxE, simplest_Simpler.E, Nat.reduceAdd, Nat.reduceEqDiff, Nat.reduceMul, Nat.reduceSub, Int.reduceAdd, Int.reduceSub, Int.reduceMul, Int.reduceNeg, Int.reduceLT, Int.reduceLE, Int.reduceEq, Int.reduceToNat, ↓reduceIte, Int.reducePow, Nat.reduceLeDiff, Nat.reduceLT, ne_eq, eq_self, List.length_cons, List.length_nil, qxE] | (with_reducible refine Sx.call_at (f := 21) (fun W hW => v1 W) ?_) | (with_reducible refine Sx.call_at (f := 21) (fun W hW => v2 W) ?_) | (with_reducible refine Sx.call_at (f := 70) (fun W hW => gx_compare f.fq f'.fq W) ?_))
        try rfl
theorem btV_yes {p q p' q' : Int} (h : p * q' ≤ p' * q) : btV true p q p' q' = .tuple #[RX (btx p q p' q').1 (btx p q p' q').2, .bool true] := by unfold btV; rw [decide_eq_true h]; rfl
theorem gx_bt {p q p' q' : Int} (f : Fq p q) (f' : Fq p' q') (h : p * q' ≤ p' * q) (W : World) : Gives Try.prog 41 [RX p q, RX p' q'] W (· = .tuple #[RX (btx p q p' q').1 (btx p q p' q').2, .bool true]) :=
  gives_eq (gx_between f.cq f'.cq f.v1 f'.v1 (fun _ => rfl) (fun _ => rfl) W) (btV_yes h)
theorem gx_smp {p q p' q' : Int} (f : Fq p q) (f' : Fq p' q') (W : World) : Gives Try.prog 43 [RX p q, RX p' q'] W (· = .bool (smp p q p' q')) := gx_simpler f.cq f'.cq f.v1 f'.v1 (fun _ => rfl) (fun _ => rfl) W
end Go.Proofs.Ytlanoclibdhpmaa

/- CdL4: MADE BY PROGRAM (sxgen.py): the small code of some functions, points of it and their equations. -/
namespace Go.Proofs.Ytlanoclibdhpmaa
open Go Go.RowKit Sx
set_option linter.unusedVariables false
variable (C : Cx) (R L1 L2 L3 L4 : St → Prop)
namespace w04_known
def r0 : List G := [(some 0, none, (.mv (.const (.bool false))))]
def r1 : List G := [(some 4, none, (.call false 44 [(.const (.int .i64 157)), (.const (.int .i64 50))])), (some 5, none, (.call false 44 [(.const (.int .i64 63)), (.const (.int .i64 20))])), (some 6, none, (.call false 41 [(.tmp 4), (.tmp 5)])), (some 3, none, (.mv (.tmp 6))), (some 7, none, (.ex (.tmp 3) 0)), (some 8, none, (.ex (.tmp 3) 1)), (some 1, none, (.new zR)), (none, none, (.st true 10 (.tmp 1) (.tmp 7))), (some 2, none, (.mv (.tmp 8)))]
def r2 : List G := [(some 9, none, (.mv (.tmp 2))), (some 10, none, (.mv (.tmp 9))), (some 11, some (10, true), (.ld true 10 (.tmp 1))), (some 12, some (10, true), (.call true 44 [(.const (.int .i64 22)), (.const (.int .i64 7))])), (some 13, some (10, true), (.eqg false 35 (.tmp 11) (.tmp 12))), (some 14, none, (.pick (.tmp 10) (.tmp 13) (.const (.bool false)))), (some 15, none, (.mv (.tmp 14))), (some 16, some (15, true), (.call true 44 [(.const (.int .i64 1)), (.const (.int .i64 2))])), (some 17, some (15, true), (.call true 44 [(.const (.int .i64 1)), (.const (.int .i64 3))])), (some 18, some (15, true), (.call true 43 [(.tmp 16), (.tmp 17)])), (some 19, none, (.pick (.tmp 15) (.tmp 18) (.const (.bool false))))]
def t2 : List G := [(some 0, none, (.mv (.tmp 19)))]
def c : MC := (.seq (.reg r0 (some [])) (.seq (.reg r1 (some [1, 2])) (.seq (.dreg r2 t2 (some [0])) .ret)))
def ann : Ann := [(0, (some [], 0, [], [], [])), (1, (some [1, 2], 0, [], [], [])), (2, (some [0], 11, [], [(0, 0), (1, 0), (2, 0), (3, 0), (4, 0), (5, 0), (6, 0), (7, 0), (8, 0), (9, 0), (10, 0)], []))]
theorem ok : compF Try.prog Try.f39 ann = some (20, c, [(0, none)]) := by kernel_rfl
def p1 (S : St) : Prop := ops C r2 (ops C t2 (kq [0] R)) S
def p2 (S : St) : Prop := ops C r1 (kq [1, 2] (p1 C R)) S
def p3 (S : St) : Prop := ops C r0 (kq [] (p2 C R)) S
theorem s (S : St) : X C c (retK R) S = p3 C R S := by kernel_rfl
theorem E : type_of% @r2.eq_1 ∧ type_of% @t2.eq_1 ∧ type_of% @p1.eq_1 ∧ type_of% @r1.eq_1 ∧ type_of% @p2.eq_1 ∧ type_of% @r0.eq_1 ∧ type_of% @p3.eq_1 ∧ type_of% @s := ⟨@r2.eq_1, @t2.eq_1, @p1.eq_1, @r1.eq_1, @p2.eq_1, @r0.eq_1, @p3.eq_1, @s⟩
end w04_known
namespace w04_fraction
def r0 : List G := [(some 4, none, (.new zR))]
def r1 : List G := [(some 8, none, (.mv (.tmp 0))), (some 9, none, (.call false 16 [(.tmp 8)])), (some 10, none, (.mv (.tmp 1))), (some 11, none, (.call false 16 [(.tmp 10)])), (some 12, none, (.call false 20 [(.tmp 9), (.tmp 11)])), (some 7, none, (.mv (.tmp 12))), (some 13, none, (.ex (.tmp 7) 0)), (some 14, none, (.ex (.tmp 7) 1)), (some 5, none, (.new zR)), (none, none, (.st true 10 (.tmp 5) (.tmp 13))), (some 6, none, (.mv (.tmp 14)))]
def r2 : List G := [(some 15, none, (.ld true 10 (.tmp 5))), (none, none, (.st true 10 (.tmp 4) (.tmp 15)))]
def c : MC := (.seq (.reg r0 (some [0, 1, 4])) (.seq (.reg r1 (some [4, 5])) (.seq (.reg r2 (some [4])) .ret)))
def ann : Ann := [(0, (some [0, 1, 4], 0, [], [], [])), (1, (some [4, 5], 0, [], [], [])), (2, (some [4], 0, [], [], []))]
theorem ok : compF Try.prog Try.f44 ann = some (16, c, [(4, some (true, 10))]) := by kernel_rfl
def p1 (S : St) : Prop := ops C r2 (kq [4] R) S
def p2 (S : St) : Prop := ops C r1 (kq [4, 5] (p1 C R)) S
def p3 (S : St) : Prop := ops C r0 (kq [0, 1, 4] (p2 C R)) S
theorem s (S : St) : X C c (retK R) S = p3 C R S := by kernel_rfl
theorem E : type_of% @r2.eq_1 ∧ type_of% @p1.eq_1 ∧ type_of% @r1.eq_1 ∧ type_of% @p2.eq_1 ∧ type_of% @r0.eq_1 ∧ type_of% @p3.eq_1 ∧ type_of% @s := ⟨@r2.eq_1, @p1.eq_1, @r1.eq_1, @p2.eq_1, @r0.eq_1, @p3.eq_1, @s⟩
end w04_fraction
namespace w04_near
def r0 : List G := [(some 2, none, (.new zR)), (some 3, none, (.new zR))]
def r1 : List G := [(some 13, none, (.mv (.tmp 0))), (some 14, none, (.call false 23 [(.tmp 13)])), (some 15, none, (.mv (.tmp 0))), (some 16, none, (.call false 23 [(.tmp 15)])), (some 4, none, (.new zR)), (some 5, none, (.new zR)), (none, none, (.st true 10 (.tmp 4) (.tmp 14))), (none, none, (.st true 10 (.tmp 5) (.tmp 16)))]
def r2 : List G := [(some 17, none, (.mv (.tmp 0))), (some 18, none, (.call false 49 [(.tmp 17), (.const (.int .i64 2))]))]
def r3 : List G := [(some 19, none, (.mv (.tmp 0))), (some 20, none, (.call false 18 [(.tmp 19), (.const (.int .i64 1000))])), (some 21, none, (.bin .add (.const (.int .i64 1)) (.tmp 20))), (some 22, none, (.call false 16 [(.tmp 21)])), (some 6, none, (.new zW)), (none, none, (.st true 5 (.tmp 6) (.tmp 22)))]
def r4 : List G := [(some 24, none, (.fa 0 (.tmp 4))), (some 25, none, (.ld true 5 (.tmp 24))), (some 26, none, (.ld true 5 (.tmp 6))), (some 27, none, (.call false 29 [(.tmp 25), (.tmp 26)])), (some 23, none, (.mv (.tmp 27))), (some 28, none, (.ex (.tmp 23) 0)), (some 29, none, (.ex (.tmp 23) 1)), (some 7, none, (.new zW)), (none, none, (.st true 5 (.tmp 7) (.tmp 28))), (some 8, none, (.mv (.tmp 29)))]
def r5 : List G := [(some 31, none, (.fa 5 (.tmp 4))), (some 32, none, (.ld true 5 (.tmp 31))), (some 33, none, (.ld true 5 (.tmp 6))), (some 34, none, (.call false 29 [(.tmp 32), (.tmp 33)])), (some 30, none, (.mv (.tmp 34))), (some 35, none, (.ex (.tmp 30) 0)), (some 36, none, (.ex (.tmp 30) 1)), (some 9, none, (.new zW)), (none, none, (.st true 5 (.tmp 9) (.tmp 35))), (some 10, none, (.mv (.tmp 36)))]
def r6 : List G := [(some 38, none, (.ld true 5 (.tmp 7))), (some 39, none, (.mv (.tmp 0))), (some 40, none, (.call false 18 [(.tmp 39), (.const (.int .i64 3))])), (some 41, none, (.call true 16 [(.tmp 40)])), (some 42, none, (.call true 32 [(.tmp 38), (.tmp 41)])), (some 37, none, (.mv (.tmp 42))), (some 43, none, (.ex (.tmp 37) 0)), (some 44, none, (.ex (.tmp 37) 1))]
def t6 : List G := [(none, none, (.st true 5 (.tmp 7) (.tmp 43)))]
def r7 : List G := [(some 46, none, (.ld true 5 (.tmp 7))), (some 47, none, (.ld true 5 (.tmp 9))), (some 48, none, (.call false 20 [(.tmp 46), (.tmp 47)])), (some 45, none, (.mv (.tmp 48))), (some 49, none, (.ex (.tmp 45) 0)), (some 50, none, (.ex (.tmp 45) 1)), (some 11, none, (.new zR)), (none, none, (.st true 10 (.tmp 11) (.tmp 49))), (some 12, none, (.mv (.tmp 50)))]
def r8 : List G := [(some 51, none, (.mv (.tmp 12)))]
def r9 : List G := [(some 52, none, (.ld true 10 (.tmp 11))), (none, none, (.st true 10 (.tmp 5) (.tmp 52)))]
def r10 : List G := [(some 53, none, (.ld true 10 (.tmp 4))), (some 54, none, (.ld true 10 (.tmp 5))), (some 55, none, (.call false 28 [(.tmp 53), (.tmp 54)])), (some 56, none, (.bin .gtr (.tmp 55) (.const (.int .i64 0))))]
def r11 : List G := [(some 57, none, (.ld true 10 (.tmp 5))), (some 58, none, (.ld true 10 (.tmp 4))), (none, none, (.st true 10 (.tmp 4) (.tmp 57))), (none, none, (.st true 10 (.tmp 5) (.tmp 58)))]
def o12 : List (List G) := [[(some 59, none, (.ld true 10 (.tmp 4))), (some 60, none, (.ld true 10 (.tmp 5))), (none, none, (.st true 10 (.tmp 2) (.tmp 59))), (none, none, (.st true 10 (.tmp 3) (.tmp 60)))],
  [(some 59, none, (.ld true 10 (.tmp 4))), (none, none, (.st true 10 (.tmp 2) (.tmp 59))), (some 60, none, (.ld true 10 (.tmp 5))), (none, none, (.st true 10 (.tmp 3) (.tmp 60)))],
  [(some 60, none, (.ld true 10 (.tmp 5))), (some 59, none, (.ld true 10 (.tmp 4))), (none, none, (.st true 10 (.tmp 2) (.tmp 59))), (none, none, (.st true 10 (.tmp 3) (.tmp 60)))]]
def c : MC := (.seq (.reg r0 (some [0, 2, 3])) (.seq (.reg r1 (some [0, 2, 3, 4, 5])) (.seq (.seq (.reg r2 (some [0, 2, 3, 4, 5, 18])) (.cond (.tmp 18) (.seq (.reg r3 (some [0, 2, 3, 4, 5, 6])) (.seq (.reg r4 (some [0, 2, 3, 4, 5, 6, 7])) (.seq (.reg r5 (some [0, 2, 3, 4, 5, 7, 9])) (.seq (.creg false false r6 t6 (some [2, 3, 4, 5, 7, 9])) (.seq (.reg r7 (some [2, 3, 4, 5, 11, 12])) (.seq (.reg r8 (some [2, 3, 4, 5, 11, 51])) (.cond (.tmp 51) (.reg r9 (some [2, 3, 4, 5])) .skip))))))) .skip)) (.seq (.seq (.reg r10 (some [2, 3, 4, 5, 56])) (.cond (.tmp 56) (.reg r11 (some [2, 3, 4, 5])) .skip)) (.seq (.areg [] o12 (some [2, 3])) .ret)))))
def ann : Ann := [(0, (some [0, 2, 3], 0, [], [], [])), (1, (some [0, 2, 3, 4, 5], 0, [], [], [])), (2, (some [0, 2, 3, 4, 5, 18], 0, [], [], [])), (3, (some [0, 2, 3, 4, 5, 6], 0, [], [], [])), (4, (some [0, 2, 3, 4, 5, 6, 7], 0, [], [], [])), (5, (some [0, 2, 3, 4, 5, 7, 9], 0, [], [], [])), (6, (some [2, 3, 4, 5, 7, 9], 300008, [7], [(0, 0), (1, 0), (2, 1), (3, 0), (4, 0), (5, 0), (6, 0), (7, 2)], [])), (7, (some [2, 3, 4, 5, 11, 12], 0, [], [], [])), (8, (some [2, 3, 4, 5, 11, 51], 0, [], [], [])), (9, (some [2, 3, 4, 5], 0, [], [], [])), (10, (some [2, 3, 4, 5, 56], 0, [], [], [])), (11, (some [2, 3, 4, 5], 0, [], [], [])), (12, (some [2, 3], 99999, [], [], []))]
theorem ok : compF Try.prog Try.f38 ann = some (61, c, [(2, some (true, 10)), (3, some (true, 10))]) := by kernel_rfl
def p1 (S : St) : Prop := areX C [] o12 (kq [2, 3] R) S
def p3 (S : St) : Prop := ops C r11 (kq [2, 3, 4, 5] (p1 C R)) S
def p2 (S : St) : Prop := condX (S.ev (.tmp 56)) (p3 C R) (p1 C R) S
def p4 (S : St) : Prop := ops C r10 (kq [2, 3, 4, 5, 56] (p2 C R)) S
def p7 (S : St) : Prop := ops C r9 (kq [2, 3, 4, 5] (p4 C R)) S
def p6 (S : St) : Prop := condX (S.ev (.tmp 51)) (p7 C R) (p4 C R) S
def p8 (S : St) : Prop := ops C r8 (kq [2, 3, 4, 5, 11, 51] (p6 C R)) S
def p9 (S : St) : Prop := ops C r7 (kq [2, 3, 4, 5, 11, 12] (p8 C R)) S
def p10 (S : St) : Prop := cregX C false false r6 t6 (kq [2, 3, 4, 5, 7, 9] (p9 C R)) S
def p11 (S : St) : Prop := ops C r5 (kq [0, 2, 3, 4, 5, 7, 9] (p10 C R)) S
def p12 (S : St) : Prop := ops C r4 (kq [0, 2, 3, 4, 5, 6, 7] (p11 C R)) S
def p13 (S : St) : Prop := ops C r3 (kq [0, 2, 3, 4, 5, 6] (p12 C R)) S
def p5 (S : St) : Prop := condX (S.ev (.tmp 18)) (p13 C R) (p4 C R) S
def p14 (S : St) : Prop := ops C r2 (kq [0, 2, 3, 4, 5, 18] (p5 C R)) S
def p15 (S : St) : Prop := ops C r1 (kq [0, 2, 3, 4, 5] (p14 C R)) S
def p16 (S : St) : Prop := ops C r0 (kq [0, 2, 3] (p15 C R)) S
theorem s (S : St) : X C c (retK R) S = p16 C R S := by kernel_rfl
theorem E : type_of% @o12.eq_1 ∧ type_of% @p1.eq_1 ∧ type_of% @r11.eq_1 ∧ type_of% @p3.eq_1 ∧ type_of% @p2.eq_1 ∧ type_of% @r10.eq_1 ∧ type_of% @p4.eq_1 ∧ type_of% @r9.eq_1 ∧ type_of% @p7.eq_1 ∧ type_of% @p6.eq_1 ∧ type_of% @r8.eq_1 ∧ type_of% @p8.eq_1 ∧ type_of% @r7.eq_1 ∧ type_of% @p9.eq_1 ∧ type_of% @r6.eq_1 ∧ type_of% @t6.eq_1 ∧ type_of% @p10.eq_1 ∧ type_of% @r5.eq_1 ∧ type_of% @p11.eq_1 ∧ type_of% @r4.eq_1 ∧ type_of% @p12.eq_1 ∧ type_of% @r3.eq_1 ∧ type_of% @p13.eq_1 ∧ type_of% @p5.eq_1 ∧ type_of% @r2.eq_1 ∧ type_of% @p14.eq_1 ∧ type_of% @r1.eq_1 ∧ type_of% @p15.eq_1 ∧ type_of% @r0.eq_1 ∧ type_of% @p16.eq_1 ∧ type_of% @s := ⟨@o12.eq_1, @p1.eq_1, @r11.eq_1, @p3.eq_1, @p2.eq_1, @r10.eq_1, @p4.eq_1, @r9.eq_1, @p7.eq_1, @p6.eq_1, @r8.eq_1, @p8.eq_1, @r7.eq_1, @p9.eq_1, @r6.eq_1, @t6.eq_1, @p10.eq_1, @r5.eq_1, @p11.eq_1, @r4.eq_1, @p12.eq_1, @r3.eq_1, @p13.eq_1, @p5.eq_1, @r2.eq_1, @p14.eq_1, @r1.eq_1, @p15.eq_1, @r0.eq_1, @p16.eq_1, @s⟩
end w04_near
end Go.Proofs.Ytlanoclibdhpmaa

/- L4: Helpers of the statements about simplest: fraction, known, alike, near. -/
namespace Go.Proofs.Ytlanoclibdhpmaa
open Go Go.RowKit Sx
set_option linter.unusedVariables false
set_option linter.unusedSimpArgs false
/-- The fraction n / d. -/
theorem g_fraction {n d : Int} (hn : I64 n) (hd : I64 d) (h0 : d ≠ 0) (W : World) : Gives Try.prog 44 [.int .i64 n, .int .i64 d] W (· = RX (mn n d) (mD n d)) := by
  have f1 := fits_i64 hn
  have f2 := fits_i64 hd
  have hg := gc_pos (x := n) h0
  have b1 : Bd 64 (mn n d) := by
    unfold mn
    split
    · exact bd_of_le (bd_neg (bd_i64 hn)) (ab_fdiv_le _ hg)
    · exact bd_of_le (bd_i64 hn) (ab_fdiv_le _ hg)
  have b2 : Bd 64 (mD n d) := bd_of_le (bd_ab (bd_i64 hd)) (ab_fdiv_le _ hg)
  have hm : mok true n d = true := by
    unfold mok
    rw [decide_eq_false h0, decide_eq_true (show ab (mn n d) < _ from bd_le b1 (by decide)), decide_eq_true (show ab (mD n d) < _ from bd_le b2 (by decide))]
    rfl
  have mk1 := fun W => rx_make f1 f2 W
  rw [mkV_yes hm] at mk1
  refine gives_known en_w04_fraction ?_
  clear hm b1 b2 hg
  generalize mn n d = N at *
  generalize mD n d = D at *
  refine known_of (enter Try.func44 w04_fraction.ok (args := [_, _]) (by simp) ?_)
  repeat' (first | simp (disch := omega) only [sxE, w04_fraction.E, Nat.reduceAdd, Nat.reduceEqDiff, Nat.reduceMul, Nat.reduceSub, Int.reduceAdd, Int.reduceSub, Int.reduceMul, Int.reduceNeg, Int.reduceLT, Int.reduceLE, Int.reduceEq, Int.reduceToNat, ↓reduceIte, Int.reducePow, Nat.reduceLeDiff, Nat.reduceLT, ne_eq, eq_self, List.length_cons, List.length_nil, qxE] | (with_reducible refine Sx.call_at (f := 16) (fun W hW => rx_of hn W) ?_) | (with_reducible refine Sx.call_at (f := 16) (fun W hW => rx_of hd W) ?_) | (with_reducible refine Sx.call_at (f := 20) (fun W hW => mk1 W) ?_))
/-- Two fractions. -/
structure Q4 where
  p : Int
  q : Int
  p' : Int
  q' : Int
def Q4.ok (x : Q4) : Prop := Fq x.p x.q ∧ Fq x.p' x.q' ∧ x.p * x.q' ≤ x.p' * x.q
def IsI (v : Value) : Prop := ∃ x : Q4, x.ok ∧ v = .tuple #[RX x.p x.q, RX x.p' x.q']
set_option maxHeartbeats 2000000 in
set_option maxRecDepth 100000 in
theorem t_near (tb : Nat) : TpC 38 [.pointer (some ⟨tb, 0, none⟩)] tb Q4.ok (fun x => .tuple #[RX x.p x.q, RX x.p' x.q']) := by
  intro B Bm w ht
  refine Calls.mono (enterG Try.func38 w04_near.ok (args := [.pointer (some ⟨tb, 0, none⟩)]) (w0 := cut w tb) (T := kX (cut w tb).heap.size [.g (hK w tb B Bm)]) (R := fun v X => (IsI) v ∧ X = kX (cut w tb).heap.size [.g (hK w tb B Bm)]) (by simp) (below_cut (Nat.le_of_lt ht.lt)) (hK_start ht).1 (kX_stab (Sx.cx _ (cut w tb) _) _) (hK_start ht).2 ?run) ?fin; have hk := tpk_h' ht
  case fin =>
    rintro e w' ⟨v, X, rfl, ⟨⟨x, hx, rfl⟩, rfl⟩, hX, hb, -⟩
    obtain ⟨h1, h2⟩ := hK_end hX (List.mem_singleton.2 rfl) hb
    exact ⟨x, hx, rfl, h1, h2⟩
  case run =>
    try dsimp only
    repeat' (first | simp (disch := omega) only [sxE, w04_near.E, Nat.reduceAdd, Nat.reduceEqDiff, Nat.reduceMul, Nat.reduceSub, Int.reduceAdd, Int.reduceSub, Int.reduceMul, Int.reduceNeg, Int.reduceLT, Int.reduceLE, Int.reduceEq, Int.reduceToNat, ↓reduceIte, Int.reducePow, Nat.reduceLeDiff, Nat.reduceLT, ne_eq, eq_self, List.length_cons, List.length_nil, qxE])
    refine asks_tc rfl (hk) (t_ratio tb) en_m_Tape__Ratio rfl (by first | exact List.mem_singleton.2 rfl | simp) rfl (by first | exact fun j hj => .inl (List.mem_singleton.1 hj) | simp) ?_
    rintro ⟨p, q⟩ hf
    dsimp only at hf ⊢
    repeat' (first | simp (disch := omega) only [sxE, w04_near.E, Nat.reduceAdd, Nat.reduceEqDiff, Nat.reduceMul, Nat.reduceSub, Int.reduceAdd, Int.reduceSub, Int.reduceMul, Int.reduceNeg, Int.reduceLT, Int.reduceLE, Int.reduceEq, Int.reduceToNat, ↓reduceIte, Int.reducePow, Nat.reduceLeDiff, Nat.reduceLT, ne_eq, eq_self, List.length_cons, List.length_nil, qxE])
    refine asks_tc rfl (hk) (t_ratio tb) en_m_Tape__Ratio rfl (by first | exact List.mem_singleton.2 rfl | simp) rfl (by first | exact fun j hj => .inl (List.mem_singleton.1 hj) | simp) ?_
    rintro ⟨p1, q1⟩ hg
    dsimp only at hg ⊢
    repeat' (first | simp (disch := omega) only [sxE, w04_near.E, Nat.reduceAdd, Nat.reduceEqDiff, Nat.reduceMul, Nat.reduceSub, Int.reduceAdd, Int.reduceSub, Int.reduceMul, Int.reduceNeg, Int.reduceLT, Int.reduceLE, Int.reduceEq, Int.reduceToNat, ↓reduceIte, Int.reducePow, Nat.reduceLeDiff, Nat.reduceLT, ne_eq, eq_self, List.length_cons, List.length_nil, qxE])
    refine asks_tc rfl (hk) (t_bool tb (by decide) (by decide)) en_m_Tape__Bool rfl (by first | exact List.mem_singleton.2 rfl | simp) rfl (by first | exact fun j hj => .inl (List.mem_singleton.1 hj) | simp) ?_
    rintro (_ | _) -
    case' true =>
      repeat' (first | simp (disch := omega) only [sxE, w04_near.E, Nat.reduceAdd, Nat.reduceEqDiff, Nat.reduceMul, Nat.reduceSub, Int.reduceAdd, Int.reduceSub, Int.reduceMul, Int.reduceNeg, Int.reduceLT, Int.reduceLE, Int.reduceEq, Int.reduceToNat, ↓reduceIte, Int.reducePow, Nat.reduceLeDiff, Nat.reduceLT, ne_eq, eq_self, List.length_cons, List.length_nil, qxE])
      refine asks_tc rfl (hk) (t_next tb (by decide) (by decide)) en_m_Tape__Next rfl (by first | exact List.mem_singleton.2 rfl | simp) rfl (by first | exact fun j hj => .inl (List.mem_singleton.1 hj) | simp) ?_
      rintro r ⟨r1, r2⟩
      have i1 : I64 (1 + r) := ⟨by omega, by omega⟩
      have b1 := bd_mul hf.bp (bd_i64 i1)
      have b2 := bd_mul hf.bq (bd_i64 i1)
      have f1 := b1.fits
      have f2 := b2.fits
      have fd := (bd_i64 i1).fits
      repeat' (first | simp (disch := omega) only [sxE, w04_near.E, Nat.reduceAdd, Nat.reduceEqDiff, Nat.reduceMul, Nat.reduceSub, Int.reduceAdd, Int.reduceSub, Int.reduceMul, Int.reduceNeg, Int.reduceLT, Int.reduceLE, Int.reduceEq, Int.reduceToNat, ↓reduceIte, Int.reducePow, Nat.reduceLeDiff, Nat.reduceLT, ne_eq, eq_self, List.length_cons, List.length_nil, qxE] | (with_reducible refine Sx.call_at (f := 16) (fun W hW => rx_of i1 W) ?_) | (with_reducible refine Sx.call_at (f := 29) (fun W hW => rx_mul hf.fp fd f1 W) ?_) | (with_reducible refine Sx.call_at (f := 29) (fun W hW => rx_mul hf.fq fd f2 W) ?_))
      refine asks_tc rfl (hk) (t_next tb (by decide) (by decide)) en_m_Tape__Next rfl (by first | exact List.mem_singleton.2 rfl | simp) rfl (by first | exact fun j hj => .inl (List.mem_singleton.1 hj) | simp) ?_
      rintro s ⟨s1, s2⟩
      have i2 : I64 s := ⟨by omega, by omega⟩
      have f3 : Fits (p * (1 + r) + s) := (bd_add (c := 192) b1 (bd_le (bd_i64 i2) (show 64 ≤ 191 by decide)) (by decide) (by decide)).fits
      have f4 := (bd_i64 i2).fits
      have mk1 := fun W => rx_make f3 f2 W
      rcases mkV_cases (b := true) (z := p * (1 + r) + s) (y := q * (1 + r)) with ⟨hm, e⟩ | ⟨hm, e⟩
      all_goals
        rw [e] at mk1
        repeat' (first | simp (disch := omega) only [sxE, w04_near.E, Nat.reduceAdd, Nat.reduceEqDiff, Nat.reduceMul, Nat.reduceSub, Int.reduceAdd, Int.reduceSub, Int.reduceMul, Int.reduceNeg, Int.reduceLT, Int.reduceLE, Int.reduceEq, Int.reduceToNat, ↓reduceIte, Int.reducePow, Nat.reduceLeDiff, Nat.reduceLT, ne_eq, eq_self, List.length_cons, List.length_nil, qxE] | (with_reducible refine Sx.call_at (f := 16) (fun W hW => rx_of i2 W) ?_) | (with_reducible refine Sx.call_at (f := 32) (fun W hW => rx_add f1 f4 f3 W) ?_) | (with_reducible refine Sx.call_at (f := 20) (fun W hW => mk1 W) ?_))
      case' inl =>
        clear hg
        have hg := mok_fq hm
        clear mk1 hm e
        generalize mn (p * (1 + r) + s) (q * (1 + r)) = p1 at *
        generalize mD (p * (1 + r) + s) (q * (1 + r)) = q1 at *
    case' false =>
      repeat' (first | simp (disch := omega) only [sxE, w04_near.E, Nat.reduceAdd, Nat.reduceEqDiff, Nat.reduceMul, Nat.reduceSub, Int.reduceAdd, Int.reduceSub, Int.reduceMul, Int.reduceNeg, Int.reduceLT, Int.reduceLE, Int.reduceEq, Int.reduceToNat, ↓reduceIte, Int.reducePow, Nat.reduceLeDiff, Nat.reduceLT, ne_eq, eq_self, List.length_cons, List.length_nil, qxE])
    all_goals
      have hgt := km_gt (p * q1) (p1 * q)
      have cmp := fun W => rx_rcompare hf.cq hg.cq W
      by_cases hle : p * q1 ≤ p1 * q
      · have c0 : ¬ 0 < cq p q p1 q1 := fun h => by have := hgt.1 h; omega
        repeat' (first | simp (disch := omega) only [sxE, w04_near.E, Nat.reduceAdd, Nat.reduceEqDiff, Nat.reduceMul, Nat.reduceSub, Int.reduceAdd, Int.reduceSub, Int.reduceMul, Int.reduceNeg, Int.reduceLT, Int.reduceLE, Int.reduceEq, Int.reduceToNat, ↓reduceIte, Int.reducePow, Nat.reduceLeDiff, Nat.reduceLT, ne_eq, eq_self, List.length_cons, List.length_nil, qxE] | (with_reducible refine Sx.call_at (f := 28) (fun W hW => cmp W) ?_))
        exact ⟨⟨p, q, p1, q1⟩, ⟨hf, hg, hle⟩, rfl⟩
      · have c0 : 0 < cq p q p1 q1 := hgt.2 (by omega)
        repeat' (first | simp (disch := omega) only [sxE, w04_near.E, Nat.reduceAdd, Nat.reduceEqDiff, Nat.reduceMul, Nat.reduceSub, Int.reduceAdd, Int.reduceSub, Int.reduceMul, Int.reduceNeg, Int.reduceLT, Int.reduceLE, Int.reduceEq, Int.reduceToNat, ↓reduceIte, Int.reducePow, Nat.reduceLeDiff, Nat.reduceLT, ne_eq, eq_self, List.length_cons, List.length_nil, qxE] | (with_reducible refine Sx.call_at (f := 28) (fun W hW => cmp W) ?_))
        exact ⟨⟨p1, q1, p, q⟩, ⟨hg, hf, by dsimp only; omega⟩, rfl⟩
theorem fq_dec {p q : Int} (h : rok true p q = true) : Fq p q := (rok_iff.1 h).2
set_option maxHeartbeats 2000000 in
set_option maxRecDepth 100000 in
theorem g_known04 (W : World) : Gives Try.prog 39 [] W (· = .bool true) := by
  have key : ∀ n d p q : Int, (-1000000 ≤ n ∧ n ≤ 1000000) → (-1000000 ≤ d ∧ d ≤ 1000000) → d ≠ 0 → mn n d = p → mD n d = q → ∀ W, Gives Try.prog 44 [.int .i64 n, .int .i64 d] W (· = RX p q) := fun n d p q hn hd h0 e1 e2 W => by
    have := g_fraction (i64n n hn) (i64n d hd) h0 W
    rwa [e1, e2] at this
  have k1 := key 157 50 157 50 (by decide) (by decide) (by decide) (by decide +kernel) (by decide +kernel)
  have k2 := key 63 20 63 20 (by decide) (by decide) (by decide) (by decide +kernel) (by decide +kernel)
  have k3 := key 22 7 22 7 (by decide) (by decide) (by decide) (by decide +kernel) (by decide +kernel)
  have k4 := key 1 2 1 2 (by decide) (by decide) (by decide) (by decide +kernel) (by decide +kernel)
  have k5 := key 1 3 1 3 (by decide) (by decide) (by decide) (by decide +kernel) (by decide +kernel)
  have f1 : Fq 157 50 := fq_dec (by decide +kernel)
  have f2 : Fq 63 20 := fq_dec (by decide +kernel)
  have f3 : Fq 22 7 := fq_dec (by decide +kernel)
  have f4 : Fq 1 2 := fq_dec (by decide +kernel)
  have f5 : Fq 1 3 := fq_dec (by decide +kernel)
  have b1 := fun W => gx_bt f1 f2 (by decide) W
  rw [show (btx 157 50 63 20).1 = 22 by decide +kernel, show (btx 157 50 63 20).2 = 7 by decide +kernel] at b1
  have s1 := fun W => gx_smp f4 f5 W
  rw [show smp 1 2 1 3 = true by decide +kernel] at s1
  refine gives_known en_w04_known ?_
  clear key
  refine known_of (enter Try.func39 w04_known.ok (args := []) (by simp) ?_)
  repeat' (first | simp (disch := omega) only [sxE, w04_known.E, Nat.reduceAdd, Nat.reduceEqDiff, Nat.reduceMul, Nat.reduceSub, Int.reduceAdd, Int.reduceSub, Int.reduceMul, Int.reduceNeg, Int.reduceLT, Int.reduceLE, Int.reduceEq, Int.reduceToNat, ↓reduceIte, Int.reducePow, Nat.reduceLeDiff, Nat.reduceLT, ne_eq, eq_self, List.length_cons, List.length_nil, qxE] | (with_reducible refine Sx.call_at (f := 44) (fun W hW => k1 W) ?_) | (with_reducible refine Sx.call_at (f := 44) (fun W hW => k2 W) ?_) | (with_reducible refine Sx.call_at (f := 44) (fun W hW => k3 W) ?_) | (with_reducible refine Sx.call_at (f := 44) (fun W hW => k4 W) ?_) | (with_reducible refine Sx.call_at (f := 44) (fun W hW => k5 W) ?_) | (with_reducible refine Sx.call_at (f := 41) (fun W hW => b1 W) ?_) | (with_reducible refine Sx.call_at (f := 43) (fun W hW => s1 W) ?_) | (with_reducible refine eq_is (fun W => by first | exact eqq_run f3.fp f3.fq f3.fp f3.fq W) ?_))
end Go.Proofs.Ytlanoclibdhpmaa

/- Hi: The reference's Int64 of a number that fits. -/
namespace Go.Proofs.Ytlanoclibdhpmaa
open Go Go.RowKit Sx
set_option linter.unusedVariables false
set_option linter.unusedSimpArgs false
set_option maxHeartbeats 1000000
theorem rg_int64 {v : Value} {z : Int} (h : IsW v z) (hz : -4611686018427387904 < z ∧ z < 4611686018427387904) (W : World) : Gives Try.prog 45 [v] W (· = .tuple #[.int .i64 z, .bool true]) := by
  obtain ⟨n, m, rfl, am, hab, -, hn⟩ := h.me
  refine gives_known en_r02_Int64 ?_
  have p1 : cn n (lb0 m) (lb1 m) (lb2 m) (lb3 m) = decide (z < 0) := hn
  obtain ⟨k1, k2⟩ := ab_of_sv (n := n) hab
  have hm : m < 4611686018427387904 := by rw [← hab]; unfold ab; split <;> omega
  have hm0 := am.1
  clear h hn hab
  refine known_of (enter Try.func45 r02_Int64.ok (args := [WV n (lb0 m) (lb1 m) (lb2 m) (lb3 m)]) (by simp) ?_)
  repeat' (first | simp (disch := omega) only [sxE, r02_Int64.E, Nat.reduceAdd, Nat.reduceEqDiff, Nat.reduceMul, Nat.reduceSub, Int.reduceAdd, Int.reduceSub, Int.reduceMul, Int.reduceNeg, Int.reduceLT, Int.reduceLE, Int.reduceEq, Int.reduceToNat, ↓reduceIte, Int.reducePow, Nat.reduceLeDiff, Nat.reduceLT, ne_eq, eq_self, List.length_cons, List.length_nil, p1] | (with_reducible refine Sx.call_at (f := 66) (fun W hW => rg_clean _ (lb0_in _) (lb1_in _) (lb2_in _) (lb3_in _) W) ?_))
  by_cases h0 : m = 0
  · have hz0 : z = 0 := by cases hd : decide (z < 0) <;> simp only [hd, true_implies, reduceCtorEq, false_implies] at k1 k2 <;> omega
    refine asks_r (L := []) (ws := []) en_r02_of (kX_nil _) (fun W hW _ => by have := of_mag (n := decide (z < 0)) am W; unfold MagP at this; rwa [show wl m = [] by rw [h0]; exact wl_nil (Int.le_refl _)] at this) fun a1 c1 hs1 hn1 => ?_
    clear hs1 hn1 k1 k2
    subst hz0
    repeat' (first | simp (disch := omega) only [sxE, r02_Int64.E, Nat.reduceAdd, Nat.reduceEqDiff, Nat.reduceMul, Nat.reduceSub, Int.reduceAdd, Int.reduceSub, Int.reduceMul, Int.reduceNeg, Int.reduceLT, Int.reduceLE, Int.reduceEq, Int.reduceToNat, ↓reduceIte, Int.reducePow, Nat.reduceLeDiff, Nat.reduceLT, ne_eq, eq_self, List.length_cons, List.length_nil])
  · have e1 : wl m = [m] := by rw [wl_cons (by omega), wl_nil (by omega), Int.emod_eq_of_lt hm0 (by omega)]
    refine asks_r (L := []) (ws := [m]) en_r02_of (kX_nil _) (fun W hW _ => by have := of_mag (n := decide (z < 0)) am W; unfold MagP at this; rwa [e1] at this) fun a1 c1 hs1 hn1 => ?_
    obtain ⟨b, off, rfl⟩ : ∃ b off, a1 = some ⟨b, off, none⟩ := hs1.some Nat.zero_lt_one
    have g0 : [m].getD 0 0 = m := rfl
    clear hs1 hn1
    by_cases hneg : z < 0
    · have hzm := k1 (decide_eq_true hneg)
      have w1 : IntKind.u64.wrap (0 - m) = 18446744073709551616 - m := by unfold IntKind.wrap; simp [IntKind.signed, IntKind.bits]; omega
      have w2 : IntKind.i64.wrap (18446744073709551616 - m) = z := by rw [wrap_i64_hi _ (by omega) (by omega)]; omega
      rw [decide_eq_true hneg]
      clear k1 k2 p1 hneg e1
      repeat' (first | simp (disch := omega) only [sxE, r02_Int64.E, Nat.reduceAdd, Nat.reduceEqDiff, Nat.reduceMul, Nat.reduceSub, Int.reduceAdd, Int.reduceSub, Int.reduceMul, Int.reduceNeg, Int.reduceLT, Int.reduceLE, Int.reduceEq, Int.reduceToNat, ↓reduceIte, Int.reducePow, Nat.reduceLeDiff, Nat.reduceLT, ne_eq, eq_self, List.length_cons, List.length_nil, w1, w2, g0, Nat.add_zero] | (refine ldP_r 0 rfl List.mem_cons_self Nat.zero_lt_one ?_))
    · have hzm := k2 (decide_eq_false hneg)
      rw [decide_eq_false hneg]
      clear k1 k2 p1 hneg e1
      subst hzm
      repeat' (first | simp (disch := omega) only [sxE, r02_Int64.E, Nat.reduceAdd, Nat.reduceEqDiff, Nat.reduceMul, Nat.reduceSub, Int.reduceAdd, Int.reduceSub, Int.reduceMul, Int.reduceNeg, Int.reduceLT, Int.reduceLE, Int.reduceEq, Int.reduceToNat, ↓reduceIte, Int.reducePow, Nat.reduceLeDiff, Nat.reduceLT, ne_eq, eq_self, List.length_cons, List.length_nil, g0, Nat.add_zero] | (refine ldP_r 0 rfl List.mem_cons_self Nat.zero_lt_one ?_))
/-- The reference's Int64 of a small atom. -/
theorem rx_int64 {z : Int} (h : Fits z) (hz : -4611686018427387904 < z ∧ z < 4611686018427387904) (W : World) : Gives Try.prog 45 [WX z] W (· = .tuple #[.int .i64 z, .bool true]) := rg_int64 h.is hz W
def U8 (x : Int) : Prop := 0 ≤ x ∧ x ≤ 255
theorem U8.of_wf {x : Int} (h : (Lit.int .u8 x).wf = true) : U8 x := by
  have e : IntKind.u8.min = 0 := by decide
  have e' : IntKind.u8.max = 255 := by decide
  simp [Lit.wf, e, e'] at h
  exact h
theorem tmod_small (a : Int) : -9999 ≤ a.tmod 10000 ∧ a.tmod 10000 ≤ 9999 := by
  rcases Int.le_total 0 a with h | h
  · rw [Int.tmod_eq_emod_of_nonneg h]; omega
  · rw [show a = -(-a) by omega, Int.neg_tmod, Int.tmod_eq_emod_of_nonneg (by omega)]; omega
/-- A fraction of small numbers. -/
theorem fr_facts {n d : Int} (N : Int) (hN : N ≤ 9999999) (hn : ab n ≤ N) (hd : 1 ≤ d ∧ d ≤ 256) : Fq (mn n d) (mD n d) ∧ mn n d * d = n * mD n d ∧ ab (mn n d) ≤ N ∧ mD n d ≤ 256 := by
  have h0 : d ≠ 0 := by omega
  have hg := gc_pos (x := n) h0
  have e : ¬ d < 0 := by omega
  have a1 : mn n d = n / gc n d := by unfold mn; rw [if_neg e]
  have a2 : mD n d = d / gc n d := by unfold mD; rw [ab_pos (by omega)]
  have k1 : n / gc n d * gc n d = n := Int.ediv_mul_cancel (gc_dvd_l n d)
  have k2 : d / gc n d * gc n d = d := Int.ediv_mul_cancel (gc_dvd_r n d)
  have b1 : ab (mn n d) ≤ N := by
    rw [a1]
    have := ab_fdiv_le n hg
    omega
  have b2 : mD n d ≤ 256 := by
    rw [a2]
    have := ab_fdiv_le d hg
    rw [ab_pos (show 0 ≤ d by omega)] at this
    have : d / gc n d ≤ ab (d / gc n d) := by unfold ab; split <;> omega
    omega
  have c1 : Bd 64 n := bd_i64 (by unfold ab at hn; split at hn <;> exact ⟨by omega, by omega⟩)
  have c2 : Bd 64 d := bd_i64 ⟨by omega, by omega⟩
  refine ⟨⟨mk_pos h0, bd_le (bd_of_le c1 ?_) (by decide), bd_le (bd_of_le c2 ?_) (by decide), mk_gc h0⟩, ?_, b1, b2⟩
  · rw [a1]; exact ab_fdiv_le n hg
  · rw [a2]; exact ab_fdiv_le d hg
  · rw [a1, a2]
    generalize hA : n / gc n d = A at *
    generalize hB : d / gc n d = B at *
    generalize gc n d = g at *
    rw [← k1, ← k2]
    rw [Int.mul_comm B g, ← Int.mul_assoc]
theorem fr_le {L k N D p1 q1 : Int} (hk : 0 < k) (hD : 0 < D) (e : N * k = L * D) : cq N D p1 q1 ≤ 0 ↔ L * q1 ≤ p1 * k := by
  unfold cq
  rw [km_le]
  have e1 : k * (N * q1) = D * (L * q1) := by rw [← Int.mul_assoc, Int.mul_comm k N, e, Int.mul_comm L D, Int.mul_assoc]
  have e2 : k * (p1 * D) = D * (p1 * k) := by rw [← Int.mul_assoc, Int.mul_comm k p1, Int.mul_comm (p1 * k) D]
  constructor
  · intro h
    refine mul_le_cancel hD ?_
    rw [← e1, ← e2]
    exact Int.mul_le_mul_of_nonneg_left h (Int.le_of_lt hk)
  · intro h
    refine mul_le_cancel hk ?_
    rw [e1, e2]
    exact Int.mul_le_mul_of_nonneg_left h (Int.le_of_lt hD)
/-- The least number over k that is not below p / q. -/
def lea (p q k : Int) : Int := if p * k % q = 0 then p * k / q else p * k / q + 1
theorem lea_ge {p q k : Int} (hq : 0 < q) : p * k ≤ lea p q k * q ∧ ∀ u, p * k ≤ u * q → lea p q k ≤ u := by
  unfold lea
  generalize p * k = z
  have h1 := Int.mul_ediv_add_emod z q
  have h2 := Int.emod_nonneg z (Int.ne_of_gt hq)
  have h3 := Int.emod_lt_of_pos z hq
  generalize z / q = A at *
  generalize z % q = R at *
  subst h1
  split
  · rename_i h0
    subst h0
    refine ⟨by rw [Int.mul_comm A q]; omega, fun u hu => mul_le_cancel hq (by rw [Int.mul_comm q u]; omega)⟩
  · rename_i h0
    refine ⟨by rw [Int.add_mul, Int.one_mul, Int.mul_comm A q]; omega, fun u hu => ?_⟩
    have : A < u := by
      refine Int.lt_of_mul_lt_mul_left (a := q) ?_ (Int.le_of_lt hq)
      rw [Int.mul_comm q u]; omega
    omega
theorem lea_law {p q p1 q1 x y k : Int} (sp : BtP p q p1 q1 x y) (hq : 0 < q) (hq1 : 0 < q1) (hk : 1 ≤ k) (hky : k ≤ y) : (k < y → ¬ lea p q k * q1 ≤ p1 * k) ∧ (k = y → lea p q k * q1 ≤ p1 * k ∧ (0 < lea p q k → x = lea p q k)) := by
  obtain ⟨g1, g2⟩ := lea_ge (p := p) (k := k) hq
  generalize lea p q k = L at *
  refine ⟨fun h hh => ?_, ?_⟩
  · have := (sp.least L k (by omega) g1 hh).2
    omega
  · rintro rfl
    have h1 := g2 x sp.lo
    have h2 : L * q1 ≤ p1 * k := Int.le_trans (Int.mul_le_mul_of_nonneg_right h1 (Int.le_of_lt hq1)) sp.hi
    refine ⟨h2, fun hL => ?_⟩
    have h3 := (sp.least L k (by omega) g1 h2).1
    rw [ab_pos (Int.le_of_lt hL), ab_pos (by omega)] at h3
    omega
theorem lea_small {p q k : Int} (hp : ab p ≤ 9999) (hk : 0 ≤ k ∧ k ≤ 256) (hq : 0 < q) : ab (p * k) ≤ 2559744 ∧ ab (p * k / q) ≤ 2559744 ∧ ab (lea p q k) ≤ 2559745 := by
  have h1 : ab (p * k) ≤ 2559744 := by
    rw [ab_mul, ab_pos hk.1]
    have := Int.mul_le_mul hp hk.2 hk.1 (by decide)
    omega
  have h2 := ab_fdiv_le (p * k) hq
  refine ⟨h1, by omega, ?_⟩
  unfold lea
  generalize p * k / q = A at *
  split
  · omega
  · unfold ab at *; (repeat' split at *) <;> omega
end Go.Proofs.Ytlanoclibdhpmaa
