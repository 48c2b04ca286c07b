/- Several texts in one: Ql, Qb, CdX, Qc, Tp, CdT, Tr, CdL3, L3, Open, Ck. -/
import Derived.Test.YtlanoclibdhpmaaProg
import Derived.Test.YtlanoclibdhpmaaRows
import Derived.OpenShut
import Derived.SizedLaws
import Derived.Laws.IdiomArrays
import Derived.Test.YtlanoclibdhpmaaMs2
import Derived.Test.YtlanoclibdhpmaaMs4

/- Ql: Plain laws of fractions. -/
namespace Go.Proofs.Ytlanoclibdhpmaa
set_option linter.unusedVariables false
set_option linter.unusedSimpArgs false
theorem km_le (x y : Int) : cm x y ≤ 0 ↔ x ≤ y := by unfold cm; (repeat' split) <;> omega
theorem km_ge0 (x y : Int) : 0 ≤ cm x y ↔ y ≤ x := by unfold cm; (repeat' split) <;> omega
/-- Which of two fractions is greater. -/
def cq (p q p' q' : Int) : Int := cm (p * q') (p' * q)
theorem mul_le_cancel {a x y : Int} (ha : 0 < a) (h : a * x ≤ a * y) : x ≤ y := Int.le_of_mul_le_mul_left h ha
theorem gcd_dvd_iff {x y : Int} : Int.gcd x y = x.natAbs ↔ x ∣ y := Int.gcd_eq_natAbs_left_iff_dvd
theorem dvd_of_gc {q p q' : Int} (hq : 0 < q) (h : gc p q = 1) (hd : q ∣ p * q') : q ∣ q' := by
  have h1 : Int.gcd q p = 1 := by unfold gc at h; rw [Int.gcd_comm]; omega
  have h2 := Int.gcd_mul_right_right_of_gcd_eq_one (k := q') h1
  have h3 : Int.gcd q (p * q') = q.natAbs := gcd_dvd_iff.2 hd
  rw [h3] at h2
  exact gcd_dvd_iff.1 h2.symm
theorem mk_scale {p q m : Int} (h : Fq p q) (hm : m ≠ 0) : mn (p * m) (q * m) = p ∧ mD (p * m) (q * m) = q := by
  have hg : gc (p * m) (q * m) = ab m := by
    have := h.gc
    unfold gc at *
    rw [Int.gcd_mul_right]
    have : Int.gcd p q = 1 := by omega
    rw [this, Nat.one_mul]
    unfold ab; split <;> omega
  have hq := h.pos
  unfold mn mD
  rw [hg]
  rcases Int.lt_or_lt_of_ne hm with hn | hp
  · have e1 : q * m < 0 := Int.mul_neg_of_pos_of_neg hq hn
    have e2 : ab m = -m := by unfold ab; rw [if_pos hn]
    have e3 : ab (q * m) = q * -m := by unfold ab; rw [if_pos e1, Int.mul_neg]
    rw [if_pos e1, e2, e3, ← Int.mul_neg]
    exact ⟨Int.mul_ediv_cancel _ (by omega), Int.mul_ediv_cancel _ (by omega)⟩
  · have e1 : 0 < q * m := Int.mul_pos hq hp
    have e2 : ab m = m := by unfold ab; rw [if_neg (by omega)]
    have e3 : ab (q * m) = q * m := by unfold ab; rw [if_neg (by omega)]
    rw [if_neg (by omega), e2, e3]
    exact ⟨Int.mul_ediv_cancel _ hm, Int.mul_ediv_cancel _ hm⟩
theorem mok_scale {p q m : Int} (h : Fq p q) (hm : m ≠ 0) : mok true (p * m) (q * m) = true := by
  obtain ⟨e1, e2⟩ := mk_scale h hm
  have hne : q * m ≠ 0 := Int.mul_ne_zero h.ne hm
  unfold mok
  rw [e1, e2, decide_eq_false hne, decide_eq_true (show ab p < _ from h.bp), decide_eq_true (show ab q < _ from h.bq)]
  rfl
theorem mk_one {z : Int} (h : Bd 127 z) : mn z 1 = z ∧ mD z 1 = 1 ∧ mok true z 1 = true := by
  have h1 := mk_scale (fq_int h) (m := 1) (by decide)
  have h2 := mok_scale (fq_int h) (m := 1) (by decide)
  rw [Int.mul_one, Int.mul_one] at h1 h2
  exact ⟨h1.1, h1.2, h2⟩
def atq (p q n : Int) : Int := (2 * (p * n) + q) / (2 * q)
theorem fl_le {x y : Int} (hy : 0 < y) : x / y * y ≤ x ∧ x < x / y * y + y := by
  have h1 := Int.mul_ediv_add_emod x y
  have h2 := Int.emod_nonneg x (Int.ne_of_gt hy)
  have h3 := Int.emod_lt_of_pos x hy
  rw [Int.mul_comm] at h1
  omega
theorem le_fl {x y z : Int} (hy : 0 < y) (h : z * y ≤ x) : z ≤ x / y := (Int.le_ediv_iff_mul_le hy).2 h
theorem at_mono {p q p' q' n : Int} (hq : 0 < q) (hq' : 0 < q') (hn : 0 ≤ n) (h : p * q' ≤ p' * q) : atq p q n ≤ atq p' q' n := by
  unfold atq
  refine le_fl (by omega) ?_
  have h1 := (fl_le (x := 2 * (p * n) + q) (y := 2 * q) (by omega)).1
  generalize (2 * (p * n) + q) / (2 * q) = A at *
  refine mul_le_cancel hq ?_
  have e1 := Int.mul_le_mul_of_nonneg_right h1 (Int.le_of_lt hq')
  have e2 := Int.mul_le_mul_of_nonneg_right h hn
  have a1 : q * (A * (2 * q')) = A * (2 * q) * q' := by
    rw [Int.mul_left_comm, Int.mul_assoc]
    congr 1
    rw [Int.mul_left_comm, Int.mul_assoc]
  have a2 : (2 * (p * n) + q) * q' = 2 * (p * q' * n) + q * q' := by
    rw [Int.add_mul, Int.mul_assoc, Int.mul_assoc p n q', Int.mul_comm n q', ← Int.mul_assoc p q' n]
  have a3 : q * (2 * (p' * n) + q') = 2 * (p' * q * n) + q * q' := by
    rw [Int.mul_add, Int.mul_left_comm, Int.mul_left_comm q p' n, ← Int.mul_assoc p' q n]
  rw [a1, a3]
  rw [a2] at e1
  omega
/-- Twice the difference between n p / q and the integer next to it. -/
theorem at_near {p q n : Int} (hq : 0 < q) : ab (p * n - atq p q n * q + (p * n - atq p q n * q)) ≤ q := by
  unfold atq
  have h1 := fl_le (x := 2 * (p * n) + q) (y := 2 * q) (by omega)
  generalize (2 * (p * n) + q) / (2 * q) = A at *
  have a1 : A * (2 * q) = 2 * (A * q) := Int.mul_left_comm _ _ _
  rw [a1] at h1
  generalize A * q = B at *
  generalize p * n = N at *
  unfold ab
  split <;> omega
theorem ceil_le {p q : Int} (hq : 0 < q) : p ≤ -(-p / q) * q ∧ -(-p / q) * q < p + q := by
  have h := fl_le (x := -p) hq
  rw [Int.neg_mul]
  omega
theorem div_one_iff {p q : Int} (h : Fq p q) : (-(-p / q) - p / q = if q = 1 then 0 else 1) := by
  have h1 := fl_le (x := p) h.pos
  have h2 := ceil_le (p := p) h.pos
  have hq := h.pos
  generalize hA : p / q = A at *
  generalize hB : -(-p / q) = B at *
  by_cases e : q = 1
  · rw [if_pos e]
    subst e
    omega
  · rw [if_neg e]
    have hne : A * q ≠ p := fun e2 => by
      have hd : q ∣ p := ⟨A, by rw [← e2, Int.mul_comm]⟩
      have hg := h.gc
      rw [gc_sym] at hg
      have := dvd_of_gc (p := 1) (q' := 1) hq (by unfold gc; rw [Int.gcd_comm, Int.gcd_one_right]; rfl) (by
        have h3 : gc q p = q := by
          unfold gc
          rw [gcd_dvd_iff.2 hd]; omega
        rw [h3] at hg
        rw [hg]; exact ⟨1, rfl⟩)
      have := Int.le_of_dvd (by decide) this
      omega
    have e1 : (B - A) * q = B * q - A * q := Int.sub_mul _ _ _
    have l1 : 0 < B - A := by
      rcases Int.lt_or_le 0 (B - A) with h | h
      · exact h
      · have := Int.mul_le_mul_of_nonneg_right h (Int.le_of_lt hq)
        omega
    have l2 : B - A < 2 := by
      rcases Int.lt_or_le (B - A) 2 with h | h
      · exact h
      · have := Int.mul_le_mul_of_nonneg_right h (Int.le_of_lt hq)
        omega
    omega
theorem at_one {p q : Int} (h : 0 < q) : atq p q 1 = p / q ∨ atq p q 1 = -(-p / q) := by
  have h1 := fl_le (x := p) h
  have h2 := ceil_le (p := p) h
  have h3 := at_near (p := p) (n := 1) h
  generalize atq p q 1 = T at *
  generalize p / q = A at *
  generalize -(-p / q) = B at *
  rw [Int.mul_one] at h3
  have e1 : (B - A) * q = B * q - A * q := Int.sub_mul _ _ _
  have e2 : (T - A) * q = T * q - A * q := Int.sub_mul _ _ _
  have e3 : (B - T) * q = B * q - T * q := Int.sub_mul _ _ _
  have key : ∀ x : Int, x * q < q → x < 1 := fun x hx => by
    rcases Int.lt_or_le x 1 with h4 | h4
    · exact h4
    · have := Int.mul_le_mul_of_nonneg_right h4 (Int.le_of_lt h); omega
  unfold ab at h3
  have kb : B - A < 2 := by
    have := key (B - A - 1) (by rw [Int.sub_mul, e1]; omega)
    omega
  have k1 : -1 < T - A := by
    have := key (A - T) (by rw [Int.sub_mul]; split at h3 <;> omega)
    omega
  have k2 : -1 < B - T := by
    have := key (T - B) (by rw [Int.sub_mul]; split at h3 <;> omega)
    omega
  have k3 : 0 ≤ B - A := by
    have := key (A - B) (by rw [Int.sub_mul]; omega)
    omega
  omega
end Go.Proofs.Ytlanoclibdhpmaa

/- Qb: What calls of the program's ratio give: Compare, Floor, Ceil, At, Make. -/
namespace Go.Proofs.Ytlanoclibdhpmaa
open Go Go.RowKit Sx
set_option linter.unusedVariables false
set_option linter.unusedSimpArgs false
theorem CQ.ten {v : Value} {p q : Int} (h : CQ v p q) : ∃ c0 c1 c2 c3 c4 c5 c6 c7 c8 c9, v = .agg #[c0, c1, c2, c3, c4, c5, c6, c7, c8, c9] := by
  rcases h with ⟨x, y, -, -, rfl, -, -⟩ | ⟨⟨q, -, rfl⟩ | ⟨p, -, rfl⟩ | rfl, -, -⟩ <;> exact ⟨_, _, _, _, _, _, _, _, _, _, rfl⟩
theorem gx_product {x y : Int} (h : Fits x) (h' : Fits y) (hf : Fits (x * y)) (W : World) : Gives Try.prog 63 [WX x, WX y] W (· = WX (x * y)) := by
  refine gives_known en_ratio_product ?_
  refine known_of (enter Try.func63 ratio_product.ok (args := [_, _]) (by simp) ?_)
  repeat' (first | simp (disch := omega) only [sxE, ratio_product.E, Nat.reduceAdd, Nat.reduceEqDiff, Nat.reduceMul, Nat.reduceSub, Int.reduceAdd, Int.reduceSub, Int.reduceMul, Int.reduceNeg, Int.reduceLT, Int.reduceLE, Int.reduceEq, Int.reduceToNat, ↓reduceIte, Int.reducePow, Nat.reduceLeDiff, Nat.reduceLT, ne_eq, eq_self, List.length_cons, List.length_nil, qxE] | (with_reducible refine Sx.call_at (f := 91) (fun W hW => gx_mul h h' hf W) ?_))
theorem Fq.fm {p q p' q' : Int} (h : Fq p q) (h' : Fq p' q') : Fits (p * q') := (bd_mul h.bp h'.bq).fits
theorem gx_rcompare {v v' : Value} {p q p' q' : Int} (h : CQ v p q) (h' : CQ v' p' q') (W : World) : Gives Try.prog 30 [v, v'] W (· = .int .i64 (cq p q p' q')) := by
  obtain ⟨c0, c1, c2, c3, c4, c5, c6, c7, c8, c9, rfl⟩ := h.ten
  obtain ⟨d0, d1, d2, d3, d4, d5, d6, d7, d8, d9, rfl⟩ := h'.ten
  have f := h.fq
  have f' := h'.fq
  have m1 := f.fm f'
  have m2 := f'.fm f
  refine gives_known en_ratio_Compare ?_
  refine known_of (enter Try.func30 ratio_Compare.ok (args := [_, _]) (by simp) ?_)
  repeat' (first | simp (disch := omega) only [sxE, ratio_Compare.E, Nat.reduceAdd, Nat.reduceEqDiff, Nat.reduceMul, Nat.reduceSub, Int.reduceAdd, Int.reduceSub, Int.reduceMul, Int.reduceNeg, Int.reduceLT, Int.reduceLE, Int.reduceEq, Int.reduceToNat, ↓reduceIte, Int.reducePow, Nat.reduceLeDiff, Nat.reduceLT, ne_eq, eq_self, List.length_cons, List.length_nil, qxE] | (with_reducible refine Sx.call_at (f := 61) (fun W hW => gx_rclean h W) ?_) | (with_reducible refine Sx.call_at (f := 61) (fun W hW => gx_rclean h' W) ?_) | (with_reducible refine Sx.call_at (f := 63) (fun W hW => gx_product f.fp f'.fq m1 W) ?_) | (with_reducible refine Sx.call_at (f := 63) (fun W hW => gx_product f'.fp f.fq m2 W) ?_) | (with_reducible refine Sx.call_at (f := 70) (fun W hW => gx_compare m1 m2 W) ?_))
  rfl
theorem gx_rfloor {v : Value} {p q : Int} (h : CQ v p q) (W : World) : Gives Try.prog 24 [v] W (· = WX (p / q)) := by
  obtain ⟨c0, c1, c2, c3, c4, c5, c6, c7, c8, c9, rfl⟩ := h.ten
  have f := h.fq
  refine gives_known en_ratio_Floor ?_
  refine known_of (enter Try.func24 ratio_Floor.ok (args := [_]) (by simp) ?_)
  repeat' (first | simp (disch := omega) only [sxE, ratio_Floor.E, Nat.reduceAdd, Nat.reduceEqDiff, Nat.reduceMul, Nat.reduceSub, Int.reduceAdd, Int.reduceSub, Int.reduceMul, Int.reduceNeg, Int.reduceLT, Int.reduceLE, Int.reduceEq, Int.reduceToNat, ↓reduceIte, Int.reducePow, Nat.reduceLeDiff, Nat.reduceLT, ne_eq, eq_self, List.length_cons, List.length_nil, qxE] | (with_reducible refine Sx.call_at (f := 61) (fun W hW => gx_rclean h W) ?_) | (with_reducible refine Sx.call_at (f := 55) (fun W hW => gx_divmod f.fp f.fq f.ne W) ?_))
theorem Fq.neg {p q : Int} (h : Fq p q) : Fq (-p) q := ⟨h.pos, bd_neg h.bp, h.bq, by rw [gc_neg]; exact h.gc⟩
theorem gx_rceil {v : Value} {p q : Int} (h : CQ v p q) (W : World) : Gives Try.prog 25 [v] W (· = WX (-(-p / q))) := by
  obtain ⟨c0, c1, c2, c3, c4, c5, c6, c7, c8, c9, rfl⟩ := h.ten
  have f := h.fq
  have f2 := f.neg
  have f3 := fits_ediv f2.fp f2.ne
  refine gives_known en_ratio_Ceil ?_
  refine known_of (enter Try.func25 ratio_Ceil.ok (args := [_]) (by simp) ?_)
  repeat' (first | simp (disch := omega) only [sxE, ratio_Ceil.E, Nat.reduceAdd, Nat.reduceEqDiff, Nat.reduceMul, Nat.reduceSub, Int.reduceAdd, Int.reduceSub, Int.reduceMul, Int.reduceNeg, Int.reduceLT, Int.reduceLE, Int.reduceEq, Int.reduceToNat, ↓reduceIte, Int.reducePow, Nat.reduceLeDiff, Nat.reduceLT, ne_eq, eq_self, List.length_cons, List.length_nil, qxE] | (with_reducible refine Sx.call_at (f := 61) (fun W hW => gx_rclean h W) ?_) | (with_reducible refine Sx.call_at (f := 53) (fun W hW => gx_neg f.fp W) ?_) | (with_reducible refine Sx.call_at (f := 53) (fun W hW => gx_neg f3 W) ?_) | (with_reducible refine Sx.call_at (f := 24) (fun W hW => gx_rfloor f2.cq W) ?_))
theorem bd_two : Bd 2 2 := by unfold Bd; decide
theorem gx_rat {v : Value} {p q n : Int} (h : CQ v p q) (hn : U64 n) (W : World) : Gives Try.prog 27 [v, .int .u64 n] W (· = WX (atq p q n)) := by
  obtain ⟨c0, c1, c2, c3, c4, c5, c6, c7, c8, c9, rfl⟩ := h.ten
  have f := h.fq
  have b1 := bd_mul f.bp (bd_u64 hn)
  have b2 := bd_mul bd_two b1
  have b3 := bd_add (c := 194) b2 f.bq (by decide) (by decide)
  have b4 := bd_mul bd_two f.bq
  have f1 := b1.fits
  have f2 := b2.fits
  have f3 := b3.fits
  have f4 := b4.fits
  have fn := (bd_u64 hn).fits
  have ft := bd_two.fits
  have i2 : I64 2 := ⟨by decide, by decide⟩
  have ne : 2 * q ≠ 0 := by have := f.pos; omega
  clear b1 b2 b3 b4
  refine gives_known en_ratio_At ?_
  refine known_of (enter Try.func27 ratio_At.ok (args := [_, _]) (by simp) ?_)
  repeat' (first | simp (disch := omega) only [sxE, ratio_At.E, Nat.reduceAdd, Nat.reduceEqDiff, Nat.reduceMul, Nat.reduceSub, Int.reduceAdd, Int.reduceSub, Int.reduceMul, Int.reduceNeg, Int.reduceLT, Int.reduceLE, Int.reduceEq, Int.reduceToNat, ↓reduceIte, Int.reducePow, Nat.reduceLeDiff, Nat.reduceLT, ne_eq, eq_self, List.length_cons, List.length_nil, qxE] | (with_reducible refine Sx.call_at (f := 61) (fun W hW => gx_rclean h W) ?_) | (with_reducible refine Sx.call_at (f := 60) (fun W hW => gx_of i2 W) ?_) | (with_reducible refine Sx.call_at (f := 64) (fun W hW => gx_ofU hn W) ?_) | (with_reducible refine Sx.call_at (f := 63) (fun W hW => gx_product f.fp fn f1 W) ?_) | (with_reducible refine Sx.call_at (f := 63) (fun W hW => gx_product ft f1 f2 W) ?_) | (with_reducible refine Sx.call_at (f := 63) (fun W hW => gx_product ft f.fq f4 W) ?_) | (with_reducible refine Sx.call_at (f := 62) (fun W hW => gx_add f2 f.fq f3 W) ?_) | (with_reducible refine Sx.call_at (f := 55) (fun W hW => gx_divmod f3 f4 ne W) ?_))
  rfl
/-- A raw Wide that counts as z; b: it is valid. -/
def RW (v : Value) (b : Bool) (z : Int) : Prop := (b = true ∧ v = WX z ∧ Fits z) ∨ (b = false ∧ v = NZ ∧ z = 0)
theorem RW.five {v : Value} {b : Bool} {z : Int} (h : RW v b z) : ∃ c0 c1 c2 c3 c4, v = .agg #[c0, c1, c2, c3, c4] := by
  rcases h with ⟨-, rfl, -⟩ | ⟨-, rfl, -⟩ <;> exact ⟨_, _, _, _, _, rfl⟩
theorem RW.is {v : Value} {b : Bool} {z : Int} (h : RW v b z) : IsW v z := by
  rcases h with ⟨-, rfl, h⟩ | ⟨-, rfl, rfl⟩
  · exact h.is
  · exact nz_is
theorem RW.fits {v : Value} {b : Bool} {z : Int} (h : RW v b z) : Fits z := by
  rcases h with ⟨-, rfl, h⟩ | ⟨-, rfl, rfl⟩
  · exact h
  · exact fits_zero
theorem Fits.rw {z : Int} (h : Fits z) : RW (WX z) true z := .inl ⟨rfl, rfl, h⟩
theorem rw_raw (n : Bool) {a b c d : Int} (ha : U64 a) (hb : U64 b) (hc : U64 c) (hd : U64 d) : ∃ t z, RW (WV n a b c d) t z := by
  rcases raw_cases n ha hb hc hd with ⟨z, hz, e⟩ | e
  · exact ⟨true, z, by rw [e]; exact hz.rw⟩
  · exact ⟨false, 0, .inr ⟨rfl, e, rfl⟩⟩
theorem gy_valid {v : Value} {b : Bool} {z : Int} (h : RW v b z) (W : World) : Gives Try.prog 51 [v] W (· = .bool b) := by
  rcases h with ⟨rfl, rfl, h⟩ | ⟨rfl, rfl, rfl⟩
  · exact gx_valid h W
  · exact gx_valid0 W
theorem ry_valid {v : Value} {b : Bool} {z : Int} (h : RW v b z) (W : World) : Gives Try.prog 57 [v] W (· = .bool b) := by
  rcases h with ⟨rfl, rfl, h⟩ | ⟨rfl, rfl, rfl⟩
  · exact rx_valid h W
  · exact rx_valid0 W
/-- What Make returns. -/
def mkV (b : Bool) (z y : Int) : Value := if mok b z y then .tuple #[RX (mn z y) (mD z y), .bool true] else .tuple #[RX 0 0, .bool false]
theorem cm_zero_iff (z : Int) : cm z 0 = 0 ↔ z = 0 := by rw [cm_zero]; (repeat' split) <;> omega
theorem fits_neg {z : Int} (h : Fits z) : Fits (-z) := fits_le h (by rw [ab_neg]; exact Int.le_refl _)
theorem fits_mn {z y : Int} (h : Fits z) (hy : y ≠ 0) : Fits (mn z y) := by
  unfold mn
  split
  · exact fits_ediv (fits_neg h) (by have := gc_pos (x := z) hy; omega)
  · exact fits_ediv h (by have := gc_pos (x := z) hy; omega)
theorem fits_ab {z : Int} (h : Fits z) : Fits (ab z) := fits_le h (by rw [ab_ab]; exact Int.le_refl _)
theorem fits_mD {z y : Int} (h : Fits y) (hy : y ≠ 0) : Fits (mD z y) := fits_ediv (fits_ab h) (by have := gc_pos (x := z) hy; omega)
set_option maxRecDepth 100000 in
theorem gx_rmake {v v' : Value} {b b' : Bool} {z y : Int} (h : RW v b z) (h' : RW v' b' y) (W : World) : Gives Try.prog 19 [v, v'] W (· = mkV (b && b') z y) := by
  refine gives_known en_ratio_Make ?_
  have v1 := fun W => gy_valid h W
  have v2 := fun W => gy_valid h' W
  have s2 := fun W => g_sign h'.is W
  by_cases hbad : b = false ∨ b' = false ∨ y = 0
  · have e : mkV (b && b') z y = .tuple #[RX 0 0, .bool false] := by
      unfold mkV mok
      rcases hbad with rfl | rfl | rfl
      · rfl
      · rw [Bool.and_false]; rfl
      · rw [if_neg (by simp)]
    rw [e]
    obtain ⟨c0, c1, c2, c3, c4, rfl⟩ := h.five
    obtain ⟨d0, d1, d2, d3, d4, rfl⟩ := h'.five
    have hcm := cm_zero_iff y
    clear e h h'
    cases b
    · refine known_of (enter Try.func19 ratio_Make.ok (args := [_, _]) (by simp) ?_)
      repeat' (first | simp (disch := omega) only [sxE, ratio_Make.E, Nat.reduceAdd, Nat.reduceEqDiff, Nat.reduceMul, Nat.reduceSub, Int.reduceAdd, Int.reduceSub, Int.reduceMul, Int.reduceNeg, Int.reduceLT, Int.reduceLE, Int.reduceEq, Int.reduceToNat, ↓reduceIte, Int.reducePow, Nat.reduceLeDiff, Nat.reduceLT, ne_eq, eq_self, List.length_cons, List.length_nil, qxE] | (with_reducible refine Sx.call_at (f := 51) (fun W hW => v1 W) ?_))
    · cases b'
      · refine known_of (enter Try.func19 ratio_Make.ok (args := [_, _]) (by simp) ?_)
        repeat' (first | simp (disch := omega) only [sxE, ratio_Make.E, Nat.reduceAdd, Nat.reduceEqDiff, Nat.reduceMul, Nat.reduceSub, Int.reduceAdd, Int.reduceSub, Int.reduceMul, Int.reduceNeg, Int.reduceLT, Int.reduceLE, Int.reduceEq, Int.reduceToNat, ↓reduceIte, Int.reducePow, Nat.reduceLeDiff, Nat.reduceLT, ne_eq, eq_self, List.length_cons, List.length_nil, qxE] | (with_reducible refine Sx.call_at (f := 51) (fun W hW => v1 W) ?_) | (with_reducible refine Sx.call_at (f := 51) (fun W hW => v2 W) ?_))
      · have hc0 : cm y 0 = 0 := hcm.2 (by rcases hbad with h | h | h; cases h; cases h; exact h)
        clear hcm hbad
        refine known_of (enter Try.func19 ratio_Make.ok (args := [_, _]) (by simp) ?_)
        repeat' (first | simp (disch := omega) only [sxE, ratio_Make.E, Nat.reduceAdd, Nat.reduceEqDiff, Nat.reduceMul, Nat.reduceSub, Int.reduceAdd, Int.reduceSub, Int.reduceMul, Int.reduceNeg, Int.reduceLT, Int.reduceLE, Int.reduceEq, Int.reduceToNat, ↓reduceIte, Int.reducePow, Nat.reduceLeDiff, Nat.reduceLT, ne_eq, eq_self, List.length_cons, List.length_nil, qxE, hc0] | (with_reducible refine Sx.call_at (f := 51) (fun W hW => v1 W) ?_) | (with_reducible refine Sx.call_at (f := 51) (fun W hW => v2 W) ?_) | (with_reducible refine Sx.call_at (f := 52) (fun W hW => s2 W) ?_))
  · obtain ⟨rfl, rfl⟩ : b = true ∧ b' = true := by
      cases b
      · exact absurd (.inl rfl) hbad
      · cases b'
        · exact absurd (.inr (.inl rfl)) hbad
        · exact ⟨rfl, rfl⟩
    have hy : y ≠ 0 := fun e => hbad (.inr (.inr e))
    rcases h with ⟨-, rfl, h⟩ | ⟨h, -, -⟩
    rotate_left
    · cases h
    rcases h' with ⟨-, rfl, h'⟩ | ⟨h', -, -⟩
    rotate_left
    · cases h'
    have hc0 : cm y 0 ≠ 0 := fun e => hy ((cm_zero_iff y).1 e)
    have f1 := fits_mn h hy
    have f2 := fits_mD (z := z) h' hy
    have hg := fits_gc h h'
    have hgp := gc_pos (x := z) hy
    have hgn : gc z y ≠ 0 := by omega
    have e : mkV (true && true) z y = if (decide (ab (mn z y) < ((2 ^ 127 : Nat) : Int)) && decide (ab (mD z y) < ((2 ^ 127 : Nat) : Int))) = true then .tuple #[RX (mn z y) (mD z y), .bool true] else .tuple #[RX 0 0, .bool false] := by
      unfold mkV mok
      rw [decide_eq_false hy]; rfl
    rw [e]
    have k1 := fun W => gx_small f1 W
    have k2 := fun W => gx_small f2 W
    generalize decide (ab (mn z y) < ((2 ^ 127 : Nat) : Int)) = t1 at *
    generalize decide (ab (mD z y) < ((2 ^ 127 : Nat) : Int)) = t2 at *
    clear e hbad
    by_cases hneg : y < 0
    · have hs : sg y = true := decide_eq_true hneg
      have n1 := fits_neg h
      have n2 := fits_neg h'
      have e1 : -z / gc z y = mn z y := by unfold mn; rw [if_pos hneg]
      have e2 : -y / gc z y = mD z y := by unfold mD ab; rw [if_pos hneg]
      have d1 := fun W => gx_divmod n1 hg hgn W
      have d2 := fun W => gx_divmod n2 hg hgn W
      rw [e1] at d1
      rw [e2] at d2
      have g1 := fun W => gx_divisor n1 n2 W
      rw [gc_neg, gc_ngr] at g1
      generalize mn z y = N at *
      generalize mD z y = D at *
      generalize gc z y = G at *
      cases t1 <;> cases t2
      all_goals
        refine known_of (enter Try.func19 ratio_Make.ok (args := [_, _]) (by simp) ?_)
        repeat' (first | simp (disch := omega) only [sxE, ratio_Make.E, Nat.reduceAdd, Nat.reduceEqDiff, Nat.reduceMul, Nat.reduceSub, Int.reduceAdd, Int.reduceSub, Int.reduceMul, Int.reduceNeg, Int.reduceLT, Int.reduceLE, Int.reduceEq, Int.reduceToNat, ↓reduceIte, Int.reducePow, Nat.reduceLeDiff, Nat.reduceLT, ne_eq, eq_self, List.length_cons, List.length_nil, qxE] | (with_reducible refine Sx.call_at (f := 51) (fun W hW => v1 W) ?_) | (with_reducible refine Sx.call_at (f := 51) (fun W hW => v2 W) ?_) | (with_reducible refine Sx.call_at (f := 52) (fun W hW => s2 W) ?_) | (with_reducible refine Sx.call_at (f := 53) (fun W hW => gx_neg h W) ?_) | (with_reducible refine Sx.call_at (f := 53) (fun W hW => gx_neg h' W) ?_) | (with_reducible refine Sx.call_at (f := 54) (fun W hW => g1 W) ?_) | (with_reducible refine Sx.call_at (f := 55) (fun W hW => d1 W) ?_) | (with_reducible refine Sx.call_at (f := 55) (fun W hW => d2 W) ?_) | (with_reducible refine Sx.call_at (f := 56) (fun W hW => k1 W) ?_) | (with_reducible refine Sx.call_at (f := 56) (fun W hW => k2 W) ?_))
        try rfl
    · have e1 : z / gc z y = mn z y := by unfold mn; rw [if_neg hneg]
      have e2 : y / gc z y = mD z y := by unfold mD ab; rw [if_neg hneg]
      have d1 := fun W => gx_divmod h hg hgn W
      have d2 := fun W => gx_divmod h' hg hgn W
      rw [e1] at d1
      rw [e2] at d2
      have g1 := fun W => gx_divisor h h' W
      generalize mn z y = N at *
      generalize mD z y = D at *
      generalize gc z y = G at *
      cases t1 <;> cases t2
      all_goals
        refine known_of (enter Try.func19 ratio_Make.ok (args := [_, _]) (by simp) ?_)
        repeat' (first | simp (disch := omega) only [sxE, ratio_Make.E, Nat.reduceAdd, Nat.reduceEqDiff, Nat.reduceMul, Nat.reduceSub, Int.reduceAdd, Int.reduceSub, Int.reduceMul, Int.reduceNeg, Int.reduceLT, Int.reduceLE, Int.reduceEq, Int.reduceToNat, ↓reduceIte, Int.reducePow, Nat.reduceLeDiff, Nat.reduceLT, ne_eq, eq_self, List.length_cons, List.length_nil, qxE] | (with_reducible refine Sx.call_at (f := 51) (fun W hW => v1 W) ?_) | (with_reducible refine Sx.call_at (f := 51) (fun W hW => v2 W) ?_) | (with_reducible refine Sx.call_at (f := 52) (fun W hW => s2 W) ?_) | (with_reducible refine Sx.call_at (f := 54) (fun W hW => g1 W) ?_) | (with_reducible refine Sx.call_at (f := 55) (fun W hW => d1 W) ?_) | (with_reducible refine Sx.call_at (f := 55) (fun W hW => d2 W) ?_) | (with_reducible refine Sx.call_at (f := 56) (fun W hW => k1 W) ?_) | (with_reducible refine Sx.call_at (f := 56) (fun W hW => k2 W) ?_))
        try rfl
end Go.Proofs.Ytlanoclibdhpmaa

/- CdX: MADE BY PROGRAM (sxgen.py): the small code of some functions, points of it and their equations. -/
namespace Go.Proofs.Ytlanoclibdhpmaa
open Go Go.RowKit Sx
set_option linter.unusedVariables false
variable (C : Cx) (R L1 L2 L3 L4 : St → Prop)
namespace r03_At
def r0 : List G := [(some 2, none, (.box true 10 (.tmp 0))), (some 4, none, (.new zW))]
def r1 : List G := [(some 12, none, (.ld true 10 (.tmp 2))), (some 13, none, (.call false 65 [(.tmp 12)])), (none, none, (.st true 10 (.tmp 2) (.tmp 13)))]
def r2 : List G := [(some 15, none, (.fa 0 (.tmp 2))), (some 16, none, (.ld true 5 (.tmp 15))), (some 17, none, (.mv (.tmp 1))), (some 18, none, (.call true 31 [(.tmp 17)])), (some 19, none, (.call true 29 [(.tmp 16), (.tmp 18)])), (some 14, none, (.mv (.tmp 19))), (some 20, none, (.ex (.tmp 14) 0)), (some 21, none, (.ex (.tmp 14) 1))]
def t2 : List G := [(some 5, none, (.new zW)), (none, none, (.st true 5 (.tmp 5) (.tmp 20))), (some 6, none, (.mv (.tmp 21)))]
def r3 : List G := [(some 23, none, (.ld true 5 (.tmp 5))), (some 24, none, (.ld true 5 (.tmp 5))), (some 25, none, (.call false 32 [(.tmp 23), (.tmp 24)])), (some 22, none, (.mv (.tmp 25))), (some 26, none, (.ex (.tmp 22) 0)), (some 27, none, (.ex (.tmp 22) 1)), (none, none, (.st true 5 (.tmp 5) (.tmp 26)))]
def r4 : List G := [(some 29, none, (.ld true 5 (.tmp 5))), (some 30, none, (.fa 5 (.tmp 2))), (some 31, none, (.ld true 5 (.tmp 30))), (some 32, none, (.call false 32 [(.tmp 29), (.tmp 31)])), (some 28, none, (.mv (.tmp 32))), (some 33, none, (.ex (.tmp 28) 0)), (some 34, none, (.ex (.tmp 28) 1)), (none, none, (.st true 5 (.tmp 5) (.tmp 33)))]
def r5 : List G := [(some 36, none, (.fa 5 (.tmp 2))), (some 37, none, (.ld true 5 (.tmp 36))), (some 38, none, (.fa 5 (.tmp 2))), (some 39, none, (.ld true 5 (.tmp 38))), (some 40, none, (.call false 32 [(.tmp 37), (.tmp 39)])), (some 35, none, (.mv (.tmp 40))), (some 41, none, (.ex (.tmp 35) 0)), (some 42, none, (.ex (.tmp 35) 1)), (some 7, none, (.new zW)), (none, none, (.st true 5 (.tmp 7) (.tmp 41))), (some 8, none, (.mv (.tmp 42)))]
def r6 : List G := [(some 44, none, (.ld true 5 (.tmp 5))), (some 45, none, (.ld true 5 (.tmp 7))), (some 46, none, (.call false 46 [(.tmp 44), (.tmp 45)])), (some 43, none, (.mv (.tmp 46))), (some 47, none, (.ex (.tmp 43) 0)), (some 48, none, (.ex (.tmp 43) 1)), (some 49, none, (.ex (.tmp 43) 2)), (some 9, none, (.new zW)), (some 10, none, (.new zW)), (none, none, (.st true 5 (.tmp 9) (.tmp 47))), (none, none, (.st true 5 (.tmp 10) (.tmp 48))), (some 11, none, (.mv (.tmp 49)))]
def r7 : List G := [(some 50, none, (.ld true 5 (.tmp 9))), (none, none, (.st true 5 (.tmp 4) (.tmp 50)))]
def c : MC := (.seq (.reg r0 (some [1, 2, 4])) (.seq (.reg r1 (some [1, 2, 4])) (.seq (.dreg r2 t2 (some [2, 4, 5])) (.seq (.reg r3 (some [2, 4, 5])) (.seq (.reg r4 (some [2, 4, 5])) (.seq (.reg r5 (some [4, 5, 7])) (.seq (.reg r6 (some [4, 9])) (.seq (.reg r7 (some [4])) .ret))))))))
def ann : Ann := [(0, (some [1, 2, 4], 0, [], [], [])), (1, (some [1, 2, 4], 0, [], [], [])), (2, (some [2, 4, 5], 9, [7], [(0, 0), (1, 0), (2, 0), (3, 0), (4, 0), (5, 0), (6, 0), (7, 2)], [8])), (3, (some [2, 4, 5], 0, [], [], [])), (4, (some [2, 4, 5], 0, [], [], [])), (5, (some [4, 5, 7], 0, [], [], [])), (6, (some [4, 9], 0, [], [], [])), (7, (some [4], 0, [], [], []))]
theorem ok : compF Try.prog Try.f76 ann = some (51, c, [(4, some (true, 5))]) := by kernel_rfl
def p1 (S : St) : Prop := ops C r7 (kq [4] R) S
def p2 (S : St) : Prop := ops C r6 (kq [4, 9] (p1 C R)) S
def p3 (S : St) : Prop := ops C r5 (kq [4, 5, 7] (p2 C R)) S
def p4 (S : St) : Prop := ops C r4 (kq [2, 4, 5] (p3 C R)) S
def p5 (S : St) : Prop := ops C r3 (kq [2, 4, 5] (p4 C R)) S
def p6 (S : St) : Prop := ops C r2 (ops C t2 (kq [2, 4, 5] (p5 C R))) S
def p7 (S : St) : Prop := ops C r1 (kq [1, 2, 4] (p6 C R)) S
def p8 (S : St) : Prop := ops C r0 (kq [1, 2, 4] (p7 C R)) S
theorem s (S : St) : X C c (retK R) S = p8 C R S := by kernel_rfl
theorem E : type_of% @r7.eq_1 ∧ type_of% @p1.eq_1 ∧ type_of% @r6.eq_1 ∧ type_of% @p2.eq_1 ∧ type_of% @r5.eq_1 ∧ type_of% @p3.eq_1 ∧ type_of% @r4.eq_1 ∧ type_of% @p4.eq_1 ∧ type_of% @r3.eq_1 ∧ type_of% @p5.eq_1 ∧ type_of% @r2.eq_1 ∧ type_of% @t2.eq_1 ∧ type_of% @p6.eq_1 ∧ type_of% @r1.eq_1 ∧ type_of% @p7.eq_1 ∧ type_of% @r0.eq_1 ∧ type_of% @p8.eq_1 ∧ type_of% @s := ⟨@r7.eq_1, @p1.eq_1, @r6.eq_1, @p2.eq_1, @r5.eq_1, @p3.eq_1, @r4.eq_1, @p4.eq_1, @r3.eq_1, @p5.eq_1, @r2.eq_1, @t2.eq_1, @p6.eq_1, @r1.eq_1, @p7.eq_1, @r0.eq_1, @p8.eq_1, @s⟩
end r03_At
namespace r03_Ceil
def r0 : List G := [(some 1, none, (.box true 10 (.tmp 0))), (some 2, none, (.new zW))]
def r1 : List G := [(some 6, none, (.ld true 10 (.tmp 1))), (some 7, none, (.call false 65 [(.tmp 6)])), (none, none, (.st true 10 (.tmp 1) (.tmp 7)))]
def r2 : List G := [(some 9, none, (.fa 0 (.tmp 1))), (some 10, none, (.ld true 5 (.tmp 9))), (some 11, none, (.call true 48 [(.tmp 10)])), (some 12, none, (.fa 5 (.tmp 1))), (some 13, none, (.ld true 5 (.tmp 12))), (some 14, none, (.call true 46 [(.tmp 11), (.tmp 13)])), (some 8, none, (.mv (.tmp 14))), (some 15, none, (.ex (.tmp 8) 0)), (some 16, none, (.ex (.tmp 8) 1)), (some 17, none, (.ex (.tmp 8) 2))]
def t2 : List G := [(some 3, none, (.new zW)), (some 4, none, (.new zW)), (none, none, (.st true 5 (.tmp 3) (.tmp 15))), (none, none, (.st true 5 (.tmp 4) (.tmp 16))), (some 5, none, (.mv (.tmp 17)))]
def r3 : List G := [(some 18, none, (.ld true 5 (.tmp 3))), (some 19, none, (.call false 48 [(.tmp 18)])), (none, none, (.st true 5 (.tmp 2) (.tmp 19)))]
def c : MC := (.seq (.reg r0 (some [1, 2])) (.seq (.reg r1 (some [1, 2])) (.seq (.dreg r2 t2 (some [2, 3])) (.seq (.reg r3 (some [2])) .ret))))
def ann : Ann := [(0, (some [1, 2], 0, [], [], [])), (1, (some [1, 2], 0, [], [], [])), (2, (some [2, 3], 12, [8, 9], [(0, 0), (1, 0), (2, 0), (3, 0), (4, 0), (5, 0), (6, 0), (7, 0), (8, 2), (9, 2)], [10, 11])), (3, (some [2], 0, [], [], []))]
theorem ok : compF Try.prog Try.f75 ann = some (20, c, [(2, some (true, 5))]) := by kernel_rfl
def p1 (S : St) : Prop := ops C r3 (kq [2] R) S
def p2 (S : St) : Prop := ops C r2 (ops C t2 (kq [2, 3] (p1 C R))) S
def p3 (S : St) : Prop := ops C r1 (kq [1, 2] (p2 C R)) S
def p4 (S : St) : Prop := ops C r0 (kq [1, 2] (p3 C R)) S
theorem s (S : St) : X C c (retK R) S = p4 C R S := by kernel_rfl
theorem E : type_of% @r3.eq_1 ∧ type_of% @p1.eq_1 ∧ type_of% @r2.eq_1 ∧ type_of% @t2.eq_1 ∧ type_of% @p2.eq_1 ∧ type_of% @r1.eq_1 ∧ type_of% @p3.eq_1 ∧ type_of% @r0.eq_1 ∧ type_of% @p4.eq_1 ∧ type_of% @s := ⟨@r3.eq_1, @p1.eq_1, @r2.eq_1, @t2.eq_1, @p2.eq_1, @r1.eq_1, @p3.eq_1, @r0.eq_1, @p4.eq_1, @s⟩
end r03_Ceil
namespace r03_Compare
def r0 : List G := [(some 2, none, (.box true 10 (.tmp 0))), (some 3, none, (.box true 10 (.tmp 1))), (some 4, none, (.mv (.const (.int .i64 0))))]
def r1 : List G := [(some 9, none, (.ld true 10 (.tmp 2))), (some 10, none, (.call true 65 [(.tmp 9)])), (some 11, none, (.ld true 10 (.tmp 3))), (some 12, none, (.call true 65 [(.tmp 11)]))]
def t1 : List G := [(none, none, (.st true 10 (.tmp 2) (.tmp 10))), (none, none, (.st true 10 (.tmp 3) (.tmp 12)))]
def r2 : List G := [(some 14, none, (.fa 0 (.tmp 2))), (some 15, none, (.ld true 5 (.tmp 14))), (some 16, none, (.fa 5 (.tmp 3))), (some 17, none, (.ld true 5 (.tmp 16))), (some 18, none, (.call false 29 [(.tmp 15), (.tmp 17)])), (some 13, none, (.mv (.tmp 18))), (some 19, none, (.ex (.tmp 13) 0)), (some 20, none, (.ex (.tmp 13) 1)), (some 5, none, (.new zW)), (none, none, (.st true 5 (.tmp 5) (.tmp 19))), (some 6, none, (.mv (.tmp 20)))]
def r3 : List G := [(some 22, none, (.fa 0 (.tmp 3))), (some 23, none, (.ld true 5 (.tmp 22))), (some 24, none, (.fa 5 (.tmp 2))), (some 25, none, (.ld true 5 (.tmp 24))), (some 26, none, (.call false 29 [(.tmp 23), (.tmp 25)])), (some 21, none, (.mv (.tmp 26))), (some 27, none, (.ex (.tmp 21) 0)), (some 28, none, (.ex (.tmp 21) 1)), (some 7, none, (.new zW)), (none, none, (.st true 5 (.tmp 7) (.tmp 27))), (some 8, none, (.mv (.tmp 28)))]
def r4 : List G := [(some 29, none, (.ld true 5 (.tmp 5))), (some 30, none, (.ld true 5 (.tmp 7))), (some 31, none, (.call false 33 [(.tmp 29), (.tmp 30)])), (some 4, none, (.mv (.tmp 31)))]
def c : MC := (.seq (.reg r0 (some [2, 3])) (.seq (.dreg r1 t1 (some [2, 3])) (.seq (.reg r2 (some [2, 3, 5])) (.seq (.reg r3 (some [5, 7])) (.seq (.reg r4 (some [4])) .ret)))))
def ann : Ann := [(0, (some [2, 3], 0, [], [], [])), (1, (some [2, 3], 4, [], [(0, 0), (1, 0), (2, 0), (3, 0)], [])), (2, (some [2, 3, 5], 0, [], [], [])), (3, (some [5, 7], 0, [], [], [])), (4, (some [4], 0, [], [], []))]
theorem ok : compF Try.prog Try.f28 ann = some (32, c, [(4, none)]) := by kernel_rfl
def p1 (S : St) : Prop := ops C r4 (kq [4] R) S
def p2 (S : St) : Prop := ops C r3 (kq [5, 7] (p1 C R)) S
def p3 (S : St) : Prop := ops C r2 (kq [2, 3, 5] (p2 C R)) S
def p4 (S : St) : Prop := ops C r1 (ops C t1 (kq [2, 3] (p3 C R))) S
def p5 (S : St) : Prop := ops C r0 (kq [2, 3] (p4 C R)) S
theorem s (S : St) : X C c (retK R) S = p5 C R S := by kernel_rfl
theorem E : type_of% @r4.eq_1 ∧ type_of% @p1.eq_1 ∧ type_of% @r3.eq_1 ∧ type_of% @p2.eq_1 ∧ type_of% @r2.eq_1 ∧ type_of% @p3.eq_1 ∧ type_of% @r1.eq_1 ∧ type_of% @t1.eq_1 ∧ type_of% @p4.eq_1 ∧ type_of% @r0.eq_1 ∧ type_of% @p5.eq_1 ∧ type_of% @s := ⟨@r4.eq_1, @p1.eq_1, @r3.eq_1, @p2.eq_1, @r2.eq_1, @p3.eq_1, @r1.eq_1, @t1.eq_1, @p4.eq_1, @r0.eq_1, @p5.eq_1, @s⟩
end r03_Compare
namespace r03_Floor
def r0 : List G := [(some 1, none, (.box true 10 (.tmp 0))), (some 2, none, (.new zW))]
def r1 : List G := [(some 6, none, (.ld true 10 (.tmp 1))), (some 7, none, (.call false 65 [(.tmp 6)])), (none, none, (.st true 10 (.tmp 1) (.tmp 7)))]
def r2 : List G := [(some 9, none, (.fa 0 (.tmp 1))), (some 10, none, (.ld true 5 (.tmp 9))), (some 11, none, (.fa 5 (.tmp 1))), (some 12, none, (.ld true 5 (.tmp 11))), (some 13, none, (.call false 46 [(.tmp 10), (.tmp 12)])), (some 8, none, (.mv (.tmp 13))), (some 14, none, (.ex (.tmp 8) 0)), (some 15, none, (.ex (.tmp 8) 1)), (some 16, none, (.ex (.tmp 8) 2)), (some 3, none, (.new zW)), (some 4, none, (.new zW)), (none, none, (.st true 5 (.tmp 3) (.tmp 14))), (none, none, (.st true 5 (.tmp 4) (.tmp 15))), (some 5, none, (.mv (.tmp 16)))]
def r3 : List G := [(some 17, none, (.ld true 5 (.tmp 3))), (none, none, (.st true 5 (.tmp 2) (.tmp 17)))]
def c : MC := (.seq (.reg r0 (some [1, 2])) (.seq (.reg r1 (some [1, 2])) (.seq (.reg r2 (some [2, 3])) (.seq (.reg r3 (some [2])) .ret))))
def ann : Ann := [(0, (some [1, 2], 0, [], [], [])), (1, (some [1, 2], 0, [], [], [])), (2, (some [2, 3], 0, [], [], [])), (3, (some [2], 0, [], [], []))]
theorem ok : compF Try.prog Try.f74 ann = some (18, c, [(2, some (true, 5))]) := by kernel_rfl
def p1 (S : St) : Prop := ops C r3 (kq [2] R) S
def p2 (S : St) : Prop := ops C r2 (kq [2, 3] (p1 C R)) S
def p3 (S : St) : Prop := ops C r1 (kq [1, 2] (p2 C R)) S
def p4 (S : St) : Prop := ops C r0 (kq [1, 2] (p3 C R)) S
theorem s (S : St) : X C c (retK R) S = p4 C R S := by kernel_rfl
theorem E : type_of% @r3.eq_1 ∧ type_of% @p1.eq_1 ∧ type_of% @r2.eq_1 ∧ type_of% @p2.eq_1 ∧ type_of% @r1.eq_1 ∧ type_of% @p3.eq_1 ∧ type_of% @r0.eq_1 ∧ type_of% @p4.eq_1 ∧ type_of% @s := ⟨@r3.eq_1, @p1.eq_1, @r2.eq_1, @p2.eq_1, @r1.eq_1, @p3.eq_1, @r0.eq_1, @p4.eq_1, @s⟩
end r03_Floor
namespace r03_Make
def r0 : List G := [(some 2, none, (.box true 5 (.tmp 0))), (some 3, none, (.box true 5 (.tmp 1))), (some 4, none, (.new zR)), (some 5, none, (.mv (.const (.bool false))))]
def r1 : List G := [(some 14, none, (.ld true 5 (.tmp 2))), (some 15, none, (.call false 57 [(.tmp 14)])), (some 16, none, (.un .not (.tmp 15))), (some 17, none, (.mv (.tmp 16))), (some 18, some (17, false), (.ld true 5 (.tmp 3))), (some 19, some (17, false), (.call false 57 [(.tmp 18)])), (some 20, some (17, false), (.un .not (.tmp 19))), (some 21, none, (.pick (.tmp 17) (.const (.bool true)) (.tmp 20))), (some 22, none, (.mv (.tmp 21))), (some 23, some (22, false), (.ld true 5 (.tmp 3))), (some 24, some (22, false), (.call false 47 [(.tmp 23)])), (some 25, some (22, false), (.bin .eql (.tmp 24) (.const (.int .i64 0)))), (some 26, none, (.pick (.tmp 22) (.const (.bool true)) (.tmp 25)))]
def r2 : List G := [(some 27, none, (.bd zR [])), (none, none, (.st true 10 (.tmp 4) (.tmp 27))), (some 5, none, (.mv (.const (.bool false))))]
def r3 : List G := [(some 28, none, (.ld true 5 (.tmp 2))), (some 29, none, (.call true 59 [(.tmp 28)])), (some 30, none, (.ld true 5 (.tmp 3))), (some 31, none, (.call true 59 [(.tmp 30)])), (some 32, none, (.call true 58 [(.tmp 29), (.tmp 31)]))]
def t3 : List G := [(some 6, none, (.new zW)), (none, none, (.st true 5 (.tmp 6) (.tmp 32)))]
def r4 : List G := [(some 34, none, (.ld true 5 (.tmp 2))), (some 35, none, (.call true 59 [(.tmp 34)])), (some 36, none, (.ld true 5 (.tmp 6))), (some 37, none, (.call true 46 [(.tmp 35), (.tmp 36)])), (some 33, none, (.mv (.tmp 37))), (some 38, none, (.ex (.tmp 33) 0)), (some 39, none, (.ex (.tmp 33) 1)), (some 40, none, (.ex (.tmp 33) 2))]
def t4 : List G := [(some 7, none, (.new zW)), (some 8, none, (.new zW)), (none, none, (.st true 5 (.tmp 7) (.tmp 38))), (none, none, (.st true 5 (.tmp 8) (.tmp 39))), (some 9, none, (.mv (.tmp 40)))]
def r5 : List G := [(some 42, none, (.ld true 5 (.tmp 3))), (some 43, none, (.call true 59 [(.tmp 42)])), (some 44, none, (.ld true 5 (.tmp 6))), (some 45, none, (.call true 46 [(.tmp 43), (.tmp 44)])), (some 41, none, (.mv (.tmp 45))), (some 46, none, (.ex (.tmp 41) 0)), (some 47, none, (.ex (.tmp 41) 1)), (some 48, none, (.ex (.tmp 41) 2))]
def t5 : List G := [(some 10, none, (.new zW)), (some 11, none, (.new zW)), (none, none, (.st true 5 (.tmp 10) (.tmp 46))), (none, none, (.st true 5 (.tmp 11) (.tmp 47))), (some 12, none, (.mv (.tmp 48)))]
def r6 : List G := [(some 49, none, (.fa 0 (.tmp 2))), (some 50, none, (.ld false 1 (.tmp 49))), (some 51, none, (.fa 0 (.tmp 3))), (some 52, none, (.ld false 1 (.tmp 51))), (some 53, none, (.bq true (.tmp 50) (.tmp 52)))]
def r7 : List G := [(some 54, none, (.ld true 5 (.tmp 7))), (some 55, none, (.call false 48 [(.tmp 54)])), (none, none, (.st true 5 (.tmp 7) (.tmp 55)))]
def r8 : List G := [(some 56, none, (.ld true 5 (.tmp 7))), (some 57, none, (.ld true 5 (.tmp 10))), (some 58, none, (.bd zR [(0, 5, (.tmp 56)), (5, 5, (.tmp 57))])), (some 13, none, (.new zR)), (none, none, (.st true 10 (.tmp 13) (.tmp 58)))]
def r9 : List G := [(some 59, none, (.ld true 10 (.tmp 13))), (some 60, none, (.call false 42 [(.tmp 59)])), (some 61, none, (.un .not (.tmp 60)))]
def r10 : List G := [(some 62, none, (.bd zR [])), (none, none, (.st true 10 (.tmp 4) (.tmp 62))), (some 5, none, (.mv (.const (.bool false))))]
def r11 : List G := [(some 63, none, (.ld true 10 (.tmp 13))), (none, none, (.st true 10 (.tmp 4) (.tmp 63))), (some 5, none, (.mv (.const (.bool true))))]
def c : MC := (.seq (.reg r0 (some [2, 3, 4])) (.seq (.seq (.reg r1 (some [2, 3, 4, 26])) (.cond (.tmp 26) (.seq (.reg r2 (some [4, 5])) .ret) .skip)) (.seq (.dreg r3 t3 (some [2, 3, 4, 6])) (.seq (.dreg r4 t4 (some [2, 3, 4, 6, 7])) (.seq (.dreg r5 t5 (some [2, 3, 4, 7, 10])) (.seq (.seq (.reg r6 (some [4, 7, 10, 53])) (.cond (.tmp 53) (.reg r7 (some [4, 7, 10])) .skip)) (.seq (.reg r8 (some [4, 13])) (.seq (.seq (.reg r9 (some [4, 13, 61])) (.cond (.tmp 61) (.seq (.reg r10 (some [4, 5])) .ret) .skip)) (.seq (.reg r11 (some [4, 5])) .ret)))))))))
def ann : Ann := [(0, (some [2, 3, 4], 0, [], [], [])), (1, (some [2, 3, 4, 26], 0, [], [], [])), (2, (some [4, 5], 0, [], [], [])), (3, (some [2, 3, 4, 6], 6, [], [(0, 0), (1, 0), (2, 0), (3, 0), (4, 0)], [5])), (4, (some [2, 3, 4, 6, 7], 10, [6, 7], [(0, 0), (1, 0), (2, 0), (3, 0), (4, 0), (5, 0), (6, 2), (7, 2)], [8, 9])), (5, (some [2, 3, 4, 7, 10], 10, [6, 7], [(0, 0), (1, 0), (2, 0), (3, 0), (4, 0), (5, 0), (6, 2), (7, 2)], [8, 9])), (6, (some [4, 7, 10, 53], 0, [], [], [])), (7, (some [4, 7, 10], 0, [], [], [])), (8, (some [4, 13], 0, [], [], [])), (9, (some [4, 13, 61], 0, [], [], [])), (10, (some [4, 5], 0, [], [], [])), (11, (some [4, 5], 0, [], [], []))]
theorem ok : compF Try.prog Try.f20 ann = some (64, c, [(4, some (true, 10)), (5, none)]) := by kernel_rfl
def p1 (S : St) : Prop := ops C r11 (kq [4, 5] R) S
def p3 (S : St) : Prop := ops C r10 (kq [4, 5] R) S
def p2 (S : St) : Prop := condX (S.ev (.tmp 61)) (p3 C R) (p1 C R) S
def p4 (S : St) : Prop := ops C r9 (kq [4, 13, 61] (p2 C R)) S
def p5 (S : St) : Prop := ops C r8 (kq [4, 13] (p4 C R)) S
def p7 (S : St) : Prop := ops C r7 (kq [4, 7, 10] (p5 C R)) S
def p6 (S : St) : Prop := condX (S.ev (.tmp 53)) (p7 C R) (p5 C R) S
def p8 (S : St) : Prop := ops C r6 (kq [4, 7, 10, 53] (p6 C R)) S
def p9 (S : St) : Prop := ops C r5 (ops C t5 (kq [2, 3, 4, 7, 10] (p8 C R))) S
def p10 (S : St) : Prop := ops C r4 (ops C t4 (kq [2, 3, 4, 6, 7] (p9 C R))) S
def p11 (S : St) : Prop := ops C r3 (ops C t3 (kq [2, 3, 4, 6] (p10 C R))) S
def p13 (S : St) : Prop := ops C r2 (kq [4, 5] R) S
def p12 (S : St) : Prop := condX (S.ev (.tmp 26)) (p13 C R) (p11 C R) S
def p14 (S : St) : Prop := ops C r1 (kq [2, 3, 4, 26] (p12 C R)) S
def p15 (S : St) : Prop := ops C r0 (kq [2, 3, 4] (p14 C R)) S
theorem s (S : St) : X C c (retK R) S = p15 C R S := by kernel_rfl
theorem E : type_of% @r11.eq_1 ∧ type_of% @p1.eq_1 ∧ type_of% @r10.eq_1 ∧ type_of% @p3.eq_1 ∧ type_of% @p2.eq_1 ∧ type_of% @r9.eq_1 ∧ type_of% @p4.eq_1 ∧ type_of% @r8.eq_1 ∧ type_of% @p5.eq_1 ∧ type_of% @r7.eq_1 ∧ type_of% @p7.eq_1 ∧ type_of% @p6.eq_1 ∧ type_of% @r6.eq_1 ∧ type_of% @p8.eq_1 ∧ type_of% @r5.eq_1 ∧ type_of% @t5.eq_1 ∧ type_of% @p9.eq_1 ∧ type_of% @r4.eq_1 ∧ type_of% @t4.eq_1 ∧ type_of% @p10.eq_1 ∧ type_of% @r3.eq_1 ∧ type_of% @t3.eq_1 ∧ type_of% @p11.eq_1 ∧ type_of% @r2.eq_1 ∧ type_of% @p13.eq_1 ∧ type_of% @p12.eq_1 ∧ type_of% @r1.eq_1 ∧ type_of% @p14.eq_1 ∧ type_of% @r0.eq_1 ∧ type_of% @p15.eq_1 ∧ type_of% @s := ⟨@r11.eq_1, @p1.eq_1, @r10.eq_1, @p3.eq_1, @p2.eq_1, @r9.eq_1, @p4.eq_1, @r8.eq_1, @p5.eq_1, @r7.eq_1, @p7.eq_1, @p6.eq_1, @r6.eq_1, @p8.eq_1, @r5.eq_1, @t5.eq_1, @p9.eq_1, @r4.eq_1, @t4.eq_1, @p10.eq_1, @r3.eq_1, @t3.eq_1, @p11.eq_1, @r2.eq_1, @p13.eq_1, @p12.eq_1, @r1.eq_1, @p14.eq_1, @r0.eq_1, @p15.eq_1, @s⟩
end r03_Make
namespace r03_Of
def r0 : List G := [(some 2, none, (.new zR))]
def r1 : List G := [(some 3, none, (.mv (.tmp 0))), (some 4, none, (.call false 16 [(.tmp 3)])), (some 5, none, (.call false 77 [])), (some 6, none, (.bd zR [(0, 5, (.tmp 4)), (5, 5, (.tmp 5))])), (none, none, (.st true 10 (.tmp 2) (.tmp 6)))]
def c : MC := (.seq (.reg r0 (some [0, 2])) (.seq (.reg r1 (some [2])) .ret))
def ann : Ann := [(0, (some [0, 2], 0, [], [], [])), (1, (some [2], 0, [], [], []))]
theorem ok : compF Try.prog Try.f37 ann = some (7, c, [(2, some (true, 10))]) := by kernel_rfl
def p1 (S : St) : Prop := ops C r1 (kq [2] R) S
def p2 (S : St) : Prop := ops C r0 (kq [0, 2] (p1 C R)) S
theorem s (S : St) : X C c (retK R) S = p2 C R S := by kernel_rfl
theorem E : type_of% @r1.eq_1 ∧ type_of% @p1.eq_1 ∧ type_of% @r0.eq_1 ∧ type_of% @p2.eq_1 ∧ type_of% @s := ⟨@r1.eq_1, @p1.eq_1, @r0.eq_1, @p2.eq_1, @s⟩
end r03_Of
namespace r03_Valid
def r0 : List G := [(some 1, none, (.box true 10 (.tmp 0))), (some 2, none, (.mv (.const (.bool false))))]
def r1 : List G := [(some 3, none, (.fa 0 (.tmp 1))), (some 4, none, (.ld true 5 (.tmp 3))), (some 5, none, (.call false 57 [(.tmp 4)])), (some 6, none, (.un .not (.tmp 5))), (some 7, none, (.mv (.tmp 6))), (some 8, some (7, false), (.fa 5 (.tmp 1))), (some 9, some (7, false), (.ld true 5 (.tmp 8))), (some 10, some (7, false), (.call false 57 [(.tmp 9)])), (some 11, some (7, false), (.un .not (.tmp 10))), (some 12, none, (.pick (.tmp 7) (.const (.bool true)) (.tmp 11))), (some 13, none, (.mv (.tmp 12))), (some 14, some (13, false), (.fa 5 (.tmp 1))), (some 15, some (13, false), (.ld true 5 (.tmp 14))), (some 16, some (13, false), (.call false 47 [(.tmp 15)])), (some 17, some (13, false), (.bin .leq (.tmp 16) (.const (.int .i64 0)))), (some 18, none, (.pick (.tmp 13) (.const (.bool true)) (.tmp 17))), (some 19, none, (.mv (.tmp 18))), (some 20, some (19, false), (.fa 0 (.tmp 1))), (some 21, some (19, false), (.ld true 5 (.tmp 20))), (some 22, some (19, false), (.call false 82 [(.tmp 21)])), (some 23, some (19, false), (.un .not (.tmp 22))), (some 24, none, (.pick (.tmp 19) (.const (.bool true)) (.tmp 23))), (some 25, none, (.mv (.tmp 24))), (some 26, some (25, false), (.fa 5 (.tmp 1))), (some 27, some (25, false), (.ld true 5 (.tmp 26))), (some 28, some (25, false), (.call false 82 [(.tmp 27)])), (some 29, some (25, false), (.un .not (.tmp 28))), (some 30, none, (.pick (.tmp 25) (.const (.bool true)) (.tmp 29)))]
def r2 : List G := [(some 2, none, (.mv (.const (.bool false))))]
def r3 : List G := [(some 31, none, (.fa 0 (.tmp 1))), (some 32, none, (.ld true 5 (.tmp 31))), (some 33, none, (.call true 59 [(.tmp 32)])), (some 34, none, (.fa 5 (.tmp 1))), (some 35, none, (.ld true 5 (.tmp 34))), (some 36, none, (.call true 58 [(.tmp 33), (.tmp 35)])), (some 37, none, (.call true 77 [])), (some 38, none, (.eqg false 25 (.tmp 36) (.tmp 37)))]
def t3 : List G := [(some 2, none, (.mv (.tmp 38)))]
def c : MC := (.seq (.reg r0 (some [1])) (.seq (.seq (.reg r1 (some [1, 30])) (.cond (.tmp 30) (.seq (.reg r2 (some [2])) .ret) .skip)) (.seq (.dreg r3 t3 (some [2])) .ret)))
def ann : Ann := [(0, (some [1], 0, [], [], [])), (1, (some [1, 30], 0, [], [], [])), (2, (some [2], 0, [], [], [])), (3, (some [2], 8, [], [(0, 0), (1, 0), (2, 0), (3, 0), (4, 0), (5, 0), (6, 0), (7, 0)], []))]
theorem ok : compF Try.prog Try.f42 ann = some (39, c, [(2, none)]) := by kernel_rfl
def p1 (S : St) : Prop := ops C r3 (ops C t3 (kq [2] R)) S
def p3 (S : St) : Prop := ops C r2 (kq [2] R) S
def p2 (S : St) : Prop := condX (S.ev (.tmp 30)) (p3 C R) (p1 C R) S
def p4 (S : St) : Prop := ops C r1 (kq [1, 30] (p2 C R)) S
def p5 (S : St) : Prop := ops C r0 (kq [1] (p4 C R)) S
theorem s (S : St) : X C c (retK R) S = p5 C R S := by kernel_rfl
theorem E : type_of% @r3.eq_1 ∧ type_of% @t3.eq_1 ∧ type_of% @p1.eq_1 ∧ type_of% @r2.eq_1 ∧ type_of% @p3.eq_1 ∧ type_of% @p2.eq_1 ∧ type_of% @r1.eq_1 ∧ type_of% @p4.eq_1 ∧ type_of% @r0.eq_1 ∧ type_of% @p5.eq_1 ∧ type_of% @s := ⟨@r3.eq_1, @t3.eq_1, @p1.eq_1, @r2.eq_1, @p3.eq_1, @p2.eq_1, @r1.eq_1, @p4.eq_1, @r0.eq_1, @p5.eq_1, @s⟩
end r03_Valid
namespace r03_abs
def r0 : List G := [(some 1, none, (.box true 5 (.tmp 0))), (some 2, none, (.new zW))]
def r1 : List G := [(some 3, none, (.fa 0 (.tmp 1))), (none, none, (.st false 1 (.tmp 3) (.const (.bool false))))]
def r2 : List G := [(some 4, none, (.ld true 5 (.tmp 1))), (none, none, (.st true 5 (.tmp 2) (.tmp 4)))]
def c : MC := (.seq (.reg r0 (some [1, 2])) (.seq (.reg r1 (some [1, 2])) (.seq (.reg r2 (some [2])) .ret)))
def ann : Ann := [(0, (some [1, 2], 0, [], [], [])), (1, (some [1, 2], 0, [], [], [])), (2, (some [2], 0, [], [], []))]
theorem ok : compF Try.prog Try.f59 ann = some (5, c, [(2, some (true, 5))]) := by kernel_rfl
def p1 (S : St) : Prop := ops C r2 (kq [2] R) S
def p2 (S : St) : Prop := ops C r1 (kq [1, 2] (p1 C R)) S
def p3 (S : St) : Prop := ops C r0 (kq [1, 2] (p2 C R)) S
theorem s (S : St) : X C c (retK R) S = p3 C R S := by kernel_rfl
theorem E : type_of% @r2.eq_1 ∧ type_of% @p1.eq_1 ∧ type_of% @r1.eq_1 ∧ type_of% @p2.eq_1 ∧ type_of% @r0.eq_1 ∧ type_of% @p3.eq_1 ∧ type_of% @s := ⟨@r2.eq_1, @p1.eq_1, @r1.eq_1, @p2.eq_1, @r0.eq_1, @p3.eq_1, @s⟩
end r03_abs
namespace r03_clean
def r0 : List G := [(some 1, none, (.box true 10 (.tmp 0))), (some 2, none, (.new zR))]
def r1 : List G := [(some 3, none, (.ld true 10 (.tmp 1))), (some 4, none, (.call false 42 [(.tmp 3)])), (some 5, none, (.un .not (.tmp 4)))]
def r2 : List G := [(some 6, none, (.call false 77 [])), (some 7, none, (.bd zR [(5, 5, (.tmp 6))])), (none, none, (.st true 10 (.tmp 2) (.tmp 7)))]
def r3 : List G := [(some 8, none, (.ld true 10 (.tmp 1))), (none, none, (.st true 10 (.tmp 2) (.tmp 8)))]
def c : MC := (.seq (.reg r0 (some [1, 2])) (.seq (.seq (.reg r1 (some [1, 2, 5])) (.cond (.tmp 5) (.seq (.reg r2 (some [2])) .ret) .skip)) (.seq (.reg r3 (some [2])) .ret)))
def ann : Ann := [(0, (some [1, 2], 0, [], [], [])), (1, (some [1, 2, 5], 0, [], [], [])), (2, (some [2], 0, [], [], [])), (3, (some [2], 0, [], [], []))]
theorem ok : compF Try.prog Try.f65 ann = some (9, c, [(2, some (true, 10))]) := by kernel_rfl
def p1 (S : St) : Prop := ops C r3 (kq [2] R) S
def p3 (S : St) : Prop := ops C r2 (kq [2] R) S
def p2 (S : St) : Prop := condX (S.ev (.tmp 5)) (p3 C R) (p1 C R) S
def p4 (S : St) : Prop := ops C r1 (kq [1, 2, 5] (p2 C R)) S
def p5 (S : St) : Prop := ops C r0 (kq [1, 2] (p4 C R)) S
theorem s (S : St) : X C c (retK R) S = p5 C R S := by kernel_rfl
theorem E : type_of% @r3.eq_1 ∧ type_of% @p1.eq_1 ∧ type_of% @r2.eq_1 ∧ type_of% @p3.eq_1 ∧ type_of% @p2.eq_1 ∧ type_of% @r1.eq_1 ∧ type_of% @p4.eq_1 ∧ type_of% @r0.eq_1 ∧ type_of% @p5.eq_1 ∧ type_of% @s := ⟨@r3.eq_1, @p1.eq_1, @r2.eq_1, @p3.eq_1, @p2.eq_1, @r1.eq_1, @p4.eq_1, @r0.eq_1, @p5.eq_1, @s⟩
end r03_clean
namespace r03_gcd
def r0 : List G := [(some 2, none, (.box true 5 (.tmp 0))), (some 3, none, (.box true 5 (.tmp 1))), (some 4, none, (.new zW))]
def r1 : List G := [(some 12, none, (.ld true 5 (.tmp 3))), (some 13, none, (.call false 47 [(.tmp 12)])), (some 14, none, (.bin .neq (.tmp 13) (.const (.int .i64 0))))]
def r2 : List G := [(some 16, none, (.ld true 5 (.tmp 2))), (some 17, none, (.call false 89 [(.tmp 16)])), (some 15, none, (.mv (.tmp 17))), (some 18, none, (.ex (.tmp 15) 0)), (some 19, none, (.ex (.tmp 15) 1)), (some 5, none, (.mv (.tmp 18))), (some 6, none, (.mv (.tmp 19)))]
def r3 : List G := [(some 21, none, (.ld true 5 (.tmp 3))), (some 22, none, (.call false 89 [(.tmp 21)])), (some 20, none, (.mv (.tmp 22))), (some 23, none, (.ex (.tmp 20) 0)), (some 24, none, (.ex (.tmp 20) 1)), (some 7, none, (.mv (.tmp 23))), (some 8, none, (.mv (.tmp 24)))]
def r4 : List G := [(some 25, none, (.mv (.tmp 6))), (some 26, none, (.mv (.tmp 25))), (some 27, some (26, true), (.mv (.tmp 8))), (some 28, none, (.pick (.tmp 26) (.tmp 27) (.const (.bool false))))]
def r5 : List G := [(some 29, none, (.mv (.tmp 7))), (some 30, none, (.bin .neq (.tmp 29) (.const (.int .u64 0))))]
def r6 : List G := [(some 31, none, (.mv (.tmp 7))), (some 32, none, (.mv (.tmp 5))), (some 33, none, (.mv (.tmp 7))), (some 34, none, (.bin .rem (.tmp 32) (.tmp 33)))]
def t6 : List G := [(some 5, none, (.mv (.tmp 31))), (some 7, none, (.mv (.tmp 34)))]
def r7 : List G := [(some 35, none, (.mv (.tmp 5))), (some 36, none, (.call false 31 [(.tmp 35)])), (none, none, (.st true 5 (.tmp 4) (.tmp 36)))]
def r8 : List G := [(some 38, none, (.ld true 5 (.tmp 2))), (some 39, none, (.ld true 5 (.tmp 3))), (some 40, none, (.call false 46 [(.tmp 38), (.tmp 39)])), (some 37, none, (.mv (.tmp 40))), (some 41, none, (.ex (.tmp 37) 0)), (some 42, none, (.ex (.tmp 37) 1)), (some 43, none, (.ex (.tmp 37) 2)), (some 9, none, (.new zW)), (some 10, none, (.new zW)), (none, none, (.st true 5 (.tmp 9) (.tmp 41))), (none, none, (.st true 5 (.tmp 10) (.tmp 42))), (some 11, none, (.mv (.tmp 43)))]
def o9 : List (List G) := [[(some 44, none, (.ld true 5 (.tmp 3))), (some 45, none, (.ld true 5 (.tmp 10))), (none, none, (.st true 5 (.tmp 2) (.tmp 44))), (none, none, (.st true 5 (.tmp 3) (.tmp 45)))],
  [(some 44, none, (.ld true 5 (.tmp 3))), (none, none, (.st true 5 (.tmp 2) (.tmp 44))), (some 45, none, (.ld true 5 (.tmp 10))), (none, none, (.st true 5 (.tmp 3) (.tmp 45)))],
  [(some 45, none, (.ld true 5 (.tmp 10))), (some 44, none, (.ld true 5 (.tmp 3))), (none, none, (.st true 5 (.tmp 2) (.tmp 44))), (none, none, (.st true 5 (.tmp 3) (.tmp 45)))]]
def r10 : List G := [(some 46, none, (.ld true 5 (.tmp 2))), (none, none, (.st true 5 (.tmp 4) (.tmp 46)))]
def c : MC := (.seq (.reg r0 (some [2, 3, 4])) (.seq (.block 0 (.loop (.seq (.seq (.reg r1 (some [2, 3, 4, 14])) (.cond (.tmp 14) .skip (.exit 0))) (.block 1 (.seq (.reg r2 (some [2, 3, 4, 5, 6])) (.seq (.reg r3 (some [2, 3, 4, 5, 6, 7, 8])) (.seq (.seq (.reg r4 (some [2, 3, 4, 5, 7, 28])) (.cond (.tmp 28) (.seq (.block 2 (.loop (.seq (.seq (.reg r5 (some [4, 5, 7, 30])) (.cond (.tmp 30) .skip (.exit 2))) (.block 3 (.dreg r6 t6 (some [4, 5, 7])))))) (.seq (.reg r7 (some [4])) .ret)) .skip)) (.seq (.reg r8 (some [2, 3, 4, 10])) (.areg [] o9 (some [2, 3, 4])))))))))) (.seq (.reg r10 (some [4])) .ret)))
def ann : Ann := [(0, (some [2, 3, 4], 0, [], [], [])), (1, (some [2, 3, 4, 14], 0, [], [], [])), (2, (some [2, 3, 4, 5, 6], 0, [], [], [])), (3, (some [2, 3, 4, 5, 6, 7, 8], 0, [], [], [])), (4, (some [2, 3, 4, 5, 7, 28], 0, [], [], [])), (5, (some [4, 5, 7, 30], 0, [], [], [])), (6, (some [4, 5, 7], 4, [2, 3], [(0, 0), (1, 0), (2, 2), (3, 2)], [])), (7, (some [4], 0, [], [], [])), (8, (some [2, 3, 4, 10], 0, [], [], [])), (9, (some [2, 3, 4], 99999, [], [], [])), (10, (some [4], 0, [], [], []))]
theorem ok : compF Try.prog Try.f58 ann = some (47, c, [(4, some (true, 5))]) := by kernel_rfl
def p1 (S : St) : Prop := ops C r10 (kq [4] R) S
def p3 (S : St) : Prop := areX C [] o9 (kq [2, 3, 4] L1) S
def p4 (S : St) : Prop := ops C r8 (kq [2, 3, 4, 10] (p3 C L1)) S
def p6 (S : St) : Prop := ops C r7 (kq [4] R) S
def p8 (S : St) : Prop := ops C r6 (ops C t6 (kq [4, 5, 7] L2)) S
def p9 (S : St) : Prop := condX (S.ev (.tmp 30)) (p8 C L2) (p6 C R) S
def p10 (S : St) : Prop := ops C r5 (kq [4, 5, 7, 30] (p9 C R L2)) S
def p7 (S : St) : Prop := LX C (fun L2 => (p10 C R L2)) S
theorem p7_l (S : St) : p7 C R S = LX C (fun L2 => (p10 C R L2)) S := rfl
def p5 (S : St) : Prop := condX (S.ev (.tmp 28)) (p7 C R) (p4 C L1) S
def p11 (S : St) : Prop := ops C r4 (kq [2, 3, 4, 5, 7, 28] (p5 C R L1)) S
def p12 (S : St) : Prop := ops C r3 (kq [2, 3, 4, 5, 6, 7, 8] (p11 C R L1)) S
def p13 (S : St) : Prop := ops C r2 (kq [2, 3, 4, 5, 6] (p12 C R L1)) S
def p14 (S : St) : Prop := condX (S.ev (.tmp 14)) (p13 C R L1) (p1 C R) S
def p15 (S : St) : Prop := ops C r1 (kq [2, 3, 4, 14] (p14 C R L1)) S
def p2 (S : St) : Prop := LX C (fun L1 => (p15 C R L1)) S
theorem p2_l (S : St) : p2 C R S = LX C (fun L1 => (p15 C R L1)) S := rfl
def p16 (S : St) : Prop := ops C r0 (kq [2, 3, 4] (p2 C R)) S
theorem s (S : St) : X C c (retK R) S = p16 C R S := by kernel_rfl
theorem E : type_of% @r10.eq_1 ∧ type_of% @p1.eq_1 ∧ type_of% @o9.eq_1 ∧ type_of% @p3.eq_1 ∧ type_of% @r8.eq_1 ∧ type_of% @p4.eq_1 ∧ type_of% @r7.eq_1 ∧ type_of% @p6.eq_1 ∧ type_of% @r6.eq_1 ∧ type_of% @t6.eq_1 ∧ type_of% @p8.eq_1 ∧ type_of% @p9.eq_1 ∧ type_of% @r5.eq_1 ∧ type_of% @p10.eq_1 ∧ type_of% @p5.eq_1 ∧ type_of% @r4.eq_1 ∧ type_of% @p11.eq_1 ∧ type_of% @r3.eq_1 ∧ type_of% @p12.eq_1 ∧ type_of% @r2.eq_1 ∧ type_of% @p13.eq_1 ∧ type_of% @p14.eq_1 ∧ type_of% @r1.eq_1 ∧ type_of% @p15.eq_1 ∧ type_of% @r0.eq_1 ∧ type_of% @p16.eq_1 ∧ type_of% @s := ⟨@r10.eq_1, @p1.eq_1, @o9.eq_1, @p3.eq_1, @r8.eq_1, @p4.eq_1, @r7.eq_1, @p6.eq_1, @r6.eq_1, @t6.eq_1, @p8.eq_1, @p9.eq_1, @r5.eq_1, @p10.eq_1, @p5.eq_1, @r4.eq_1, @p11.eq_1, @r3.eq_1, @p12.eq_1, @r2.eq_1, @p13.eq_1, @p14.eq_1, @r1.eq_1, @p15.eq_1, @r0.eq_1, @p16.eq_1, @s⟩
end r03_gcd
namespace r03_one
def r0 : List G := [(some 0, none, (.new zW))]
def r1 : List G := [(some 1, none, (.call false 16 [(.const (.int .i64 1))])), (none, none, (.st true 5 (.tmp 0) (.tmp 1)))]
def c : MC := (.seq (.reg r0 (some [0])) (.seq (.reg r1 (some [0])) .ret))
def ann : Ann := [(0, (some [0], 0, [], [], [])), (1, (some [0], 0, [], [], []))]
theorem ok : compF Try.prog Try.f77 ann = some (2, c, [(0, some (true, 5))]) := by kernel_rfl
def p1 (S : St) : Prop := ops C r1 (kq [0] R) S
def p2 (S : St) : Prop := ops C r0 (kq [0] (p1 C R)) S
theorem s (S : St) : X C c (retK R) S = p2 C R S := by kernel_rfl
theorem E : type_of% @r1.eq_1 ∧ type_of% @p1.eq_1 ∧ type_of% @r0.eq_1 ∧ type_of% @p2.eq_1 ∧ type_of% @s := ⟨@r1.eq_1, @p1.eq_1, @r0.eq_1, @p2.eq_1, @s⟩
end r03_one
namespace r03_small
def r0 : List G := [(some 1, none, (.box true 5 (.tmp 0))), (some 2, none, (.mv (.const (.bool false))))]
def r1 : List G := [(some 3, none, (.fa 1 (.tmp 1))), (some 4, none, (.ia 4 1 (.tmp 3) (.const (.int .i64 3)))), (some 5, none, (.ld false 1 (.tmp 4))), (some 6, none, (.bin .eql (.tmp 5) (.const (.int .u64 0)))), (some 7, none, (.mv (.tmp 6))), (some 8, some (7, true), (.fa 1 (.tmp 1))), (some 9, some (7, true), (.ia 4 1 (.tmp 8) (.const (.int .i64 2)))), (some 10, some (7, true), (.ld false 1 (.tmp 9))), (some 11, some (7, true), (.bin .eql (.tmp 10) (.const (.int .u64 0)))), (some 12, none, (.pick (.tmp 7) (.tmp 11) (.const (.bool false)))), (some 13, none, (.mv (.tmp 12))), (some 14, some (13, true), (.fa 1 (.tmp 1))), (some 15, some (13, true), (.ia 4 1 (.tmp 14) (.const (.int .i64 1)))), (some 16, some (13, true), (.ld false 1 (.tmp 15))), (some 17, some (13, true), (.bin .lss (.tmp 16) (.const (.int .u64 9223372036854775808)))), (some 18, none, (.pick (.tmp 13) (.tmp 17) (.const (.bool false)))), (some 2, none, (.mv (.tmp 18)))]
def c : MC := (.seq (.reg r0 (some [1])) (.seq (.reg r1 (some [2])) .ret))
def ann : Ann := [(0, (some [1], 0, [], [], [])), (1, (some [2], 0, [], [], []))]
theorem ok : compF Try.prog Try.f82 ann = some (19, c, [(2, none)]) := by kernel_rfl
def p1 (S : St) : Prop := ops C r1 (kq [2] R) S
def p2 (S : St) : Prop := ops C r0 (kq [1] (p1 C R)) S
theorem s (S : St) : X C c (retK R) S = p2 C R S := by kernel_rfl
theorem E : type_of% @r1.eq_1 ∧ type_of% @p1.eq_1 ∧ type_of% @r0.eq_1 ∧ type_of% @p2.eq_1 ∧ type_of% @s := ⟨@r1.eq_1, @p1.eq_1, @r0.eq_1, @p2.eq_1, @s⟩
end r03_small
end Go.Proofs.Ytlanoclibdhpmaa

/- Qc: What calls of the reference of ratio give. -/
namespace Go.Proofs.Ytlanoclibdhpmaa
open Go Go.RowKit Sx
set_option linter.unusedVariables false
set_option linter.unusedSimpArgs false
theorem small_plain2 {m : Int} (h : A4 m) : m < ((2 ^ 127 : Nat) : Int) ↔ lb3 m = 0 ∧ lb2 m = 0 ∧ lb1 m < 9223372036854775808 := by
  rw [small_plain h]
  have := lb1_in m
  rw [Int.fdiv_eq_ediv_of_nonneg _ (by decide)]
  unfold U64 at this
  constructor
  · rintro ⟨a, b, c⟩; exact ⟨a, b, by omega⟩
  · rintro ⟨a, b, c⟩; exact ⟨a, b, by omega⟩
theorem rx_small {z : Int} (h : Fits z) (W : World) : Gives Try.prog 82 [WX z] W (· = .bool (decide (ab z < ((2 ^ 127 : Nat) : Int)))) := by
  have e := small_plain2 (m := ab z) ⟨ab_nonneg z, (fits_lt z).1 h⟩
  refine gives_known en_r03_small ?_
  rw [show decide (ab z < ((2 ^ 127 : Nat) : Int)) = (decide (lb3 (ab z) = 0) && (decide (lb2 (ab z) = 0) && decide (lb1 (ab z) < 9223372036854775808))) by rw [Bool.eq_iff_iff, decide_eq_true_iff, e]; simp]
  clear e h
  refine known_of (enter Try.func82 r03_small.ok (args := [WX z]) (by simp) ?_)
  repeat' (first | simp (disch := omega) only [sxE, r03_small.E, Nat.reduceAdd, Nat.reduceEqDiff, Nat.reduceMul, Nat.reduceSub, Int.reduceAdd, Int.reduceSub, Int.reduceMul, Int.reduceNeg, Int.reduceLT, Int.reduceLE, Int.reduceEq, Int.reduceToNat, ↓reduceIte, Int.reducePow, Nat.reduceLeDiff, Nat.reduceLT, ne_eq, eq_self, List.length_cons, List.length_nil, qxE] | ((with_reducible first | apply cond_beq | apply gd_beq) <;> (intro hc; first | simp only [beq_iff_eq.2 hc] | simp only [beq_eq_false_iff_ne.2 hc] | skip)) | ((with_reducible first | apply cond_dec | apply gd_dec) <;> (intro hc; first | simp only [decide_eq_true hc] | simp only [decide_eq_false hc] | skip)) | ((with_reducible first | apply cond_of | apply gd_of) <;> (intro hc; try simp only [hc])))
  all_goals (refine vb ?_; rw [Bool.eq_iff_iff]; simp_all)
theorem rx_abs {z : Int} (W : World) : Gives Try.prog 59 [WX z] W (· = WX (ab z)) := by
  refine gives_known en_r03_abs ?_
  refine known_of (enter Try.func59 r03_abs.ok (args := [_]) (by simp) ?_)
  repeat' (first | simp (disch := omega) only [sxE, r03_abs.E, Nat.reduceAdd, Nat.reduceEqDiff, Nat.reduceMul, Nat.reduceSub, Int.reduceAdd, Int.reduceSub, Int.reduceMul, Int.reduceNeg, Int.reduceLT, Int.reduceLE, Int.reduceEq, Int.reduceToNat, ↓reduceIte, Int.reducePow, Nat.reduceLeDiff, Nat.reduceLT, ne_eq, eq_self, List.length_cons, List.length_nil, qxE])
theorem rx_one (W : World) : Gives Try.prog 77 [] W (· = WX 1) := by
  refine gives_known en_r03_one ?_
  refine known_of (enter Try.func77 r03_one.ok (args := []) (by simp) ?_)
  repeat' (first | simp (disch := omega) only [sxE, r03_one.E, Nat.reduceAdd, Nat.reduceEqDiff, Nat.reduceMul, Nat.reduceSub, Int.reduceAdd, Int.reduceSub, Int.reduceMul, Int.reduceNeg, Int.reduceLT, Int.reduceLE, Int.reduceEq, Int.reduceToNat, ↓reduceIte, Int.reducePow, Nat.reduceLeDiff, Nat.reduceLT, ne_eq, eq_self, List.length_cons, List.length_nil, qxE] | (with_reducible refine Sx.call_at (f := 16) (fun W hW => rx_of i64_one W) ?_))
def gcF2 (x : Int × Int) : St := ⟨3, [(4, .p 2 0), (5, .v (.int .u64 x.1)), (7, .v (.int .u64 x.2))], [(2, [.bool false, .int .u64 0, .int .u64 0, .int .u64 0, .int .u64 0])], ext0⟩
set_option maxRecDepth 100000 in
theorem rx_gcd {z y : Int} (h : Fits z) (h' : Fits y) (n1 : 0 ≤ z) (n2 : 0 ≤ y) (W : World) : Gives Try.prog 58 [WX z, WX y] W (· = WX (gc z y)) := by
  refine gives_known en_r03_gcd ?_
  refine known_of (enter Try.func58 r03_gcd.ok (args := [WX z, WX y]) (by simp) ?_)
  repeat' (first | simp (disch := omega) only [sxE, r03_gcd.E, Nat.reduceAdd, Nat.reduceEqDiff, Nat.reduceMul, Nat.reduceSub, Int.reduceAdd, Int.reduceSub, Int.reduceMul, Int.reduceNeg, Int.reduceLT, Int.reduceLE, Int.reduceEq, Int.reduceToNat, ↓reduceIte, Int.reducePow, Nat.reduceLeDiff, Nat.reduceLT, ne_eq, eq_self, List.length_cons, List.length_nil, qxE])
  rw [r03_gcd.p2_l]
  refine LX_inv gcF (fun x => 0 ≤ x.1 ∧ 0 ≤ x.2 ∧ Fits x.1 ∧ Fits x.2 ∧ gc x.1 x.2 = gc z y) (fun x => x.2.toNat) ?round (z, y) ⟨n1, n2, h, h', rfl⟩ ?start
  case start =>
    unfold gcF wc
    dsimp only
    simp (disch := omega) only [sxE, r03_gcd.E, Nat.reduceAdd, Nat.reduceEqDiff, Nat.reduceMul, Nat.reduceSub, Int.reduceAdd, Int.reduceSub, Int.reduceMul, Int.reduceNeg, Int.reduceLT, Int.reduceLE, Int.reduceEq, Int.reduceToNat, ↓reduceIte, Int.reducePow, Nat.reduceLeDiff, Nat.reduceLT, ne_eq, eq_self, List.length_cons, List.length_nil]
  case round =>
    rintro ⟨x, w⟩ ⟨h1, h2, h3, h4, h5⟩
    dsimp only at h1 h2 h3 h4 h5 ⊢
    rw [← h5]
    clear h5 h h' n1 n2
    have hcm := cm_zero w
    unfold gcF wc
    dsimp only
    by_cases hw : w = 0
    · subst hw
      rw [gc_zero x h1]
      have hc0 : cm 0 0 = 0 := rfl
      repeat' (first | simp (disch := omega) only [sxE, r03_gcd.E, Nat.reduceAdd, Nat.reduceEqDiff, Nat.reduceMul, Nat.reduceSub, Int.reduceAdd, Int.reduceSub, Int.reduceMul, Int.reduceNeg, Int.reduceLT, Int.reduceLE, Int.reduceEq, Int.reduceToNat, ↓reduceIte, Int.reducePow, Nat.reduceLeDiff, Nat.reduceLT, ne_eq, eq_self, List.length_cons, List.length_nil, qxE, hc0] | (with_reducible refine Sx.call_at (f := 47) (fun W hW => rx_sign h4 W) ?_))
    · have hc0 : cm w 0 ≠ 0 := by rw [hcm]; (repeat' split) <;> omega
      have hq := fits_emod (z := x) h4 hw
      have hm0 := Int.emod_nonneg x hw
      have hm1 := Int.emod_lt_of_pos x (show 0 < w by omega)
      have hgs := gc_step h1 (show 0 < w by omega)
      clear hcm
      by_cases hu : x < 18446744073709551616 ∧ w < 18446744073709551616
      · have u1 : unb x = true := decide_eq_true ⟨h1, hu.1⟩
        have u2 : unb w = true := decide_eq_true ⟨h2, hu.2⟩
        have u3 : unv x = x := by unfold unv; rw [u1]; rfl
        have u4 : unv w = w := by unfold unv; rw [u2]; rfl
        have k1 := fun W => rx_unsigned h3 W
        have k2 := fun W => rx_unsigned h4 W
        rw [u1, u3] at k1
        rw [u2, u4] at k2
        repeat' (first | simp (disch := omega) only [sxE, r03_gcd.E, Nat.reduceAdd, Nat.reduceEqDiff, Nat.reduceMul, Nat.reduceSub, Int.reduceAdd, Int.reduceSub, Int.reduceMul, Int.reduceNeg, Int.reduceLT, Int.reduceLE, Int.reduceEq, Int.reduceToNat, ↓reduceIte, Int.reducePow, Nat.reduceLeDiff, Nat.reduceLT, ne_eq, eq_self, List.length_cons, List.length_nil, qxE] | (with_reducible refine Sx.call_at (f := 47) (fun W hW => rx_sign h4 W) ?_) | (with_reducible refine Sx.call_at (f := 89) (fun W hW => k1 W) ?_) | (with_reducible refine Sx.call_at (f := 89) (fun W hW => k2 W) ?_))
        rw [r03_gcd.p7_l]
        obtain ⟨hu1, hu2⟩ := hu
        clear hgs hm0 hm1 hq hc0 hw u1 u2 u3 u4 k1 k2
        refine LX_inv gcF2 (fun t => U64 t.1 ∧ U64 t.2 ∧ gc t.1 t.2 = gc x w) (fun t => t.2.toNat) ?round2 (x, w) ⟨⟨h1, by omega⟩, ⟨h2, by omega⟩, rfl⟩ ?start2
        case start2 =>
          unfold gcF2
          dsimp only
          simp (disch := omega) only [sxE, r03_gcd.E, Nat.reduceAdd, Nat.reduceEqDiff, Nat.reduceMul, Nat.reduceSub, Int.reduceAdd, Int.reduceSub, Int.reduceMul, Int.reduceNeg, Int.reduceLT, Int.reduceLE, Int.reduceEq, Int.reduceToNat, ↓reduceIte, Int.reducePow, Nat.reduceLeDiff, Nat.reduceLT, ne_eq, eq_self, List.length_cons, List.length_nil]
        case round2 =>
          rintro ⟨s, t⟩ ⟨i1, i2, i3⟩
          dsimp only at i1 i2 i3 ⊢
          rw [← i3]
          unfold gcF2
          dsimp only
          by_cases ht : t = 0
          · subst ht
            rw [gc_zero s i1.1]
            repeat' (first | simp (disch := omega) only [sxE, r03_gcd.E, Nat.reduceAdd, Nat.reduceEqDiff, Nat.reduceMul, Nat.reduceSub, Int.reduceAdd, Int.reduceSub, Int.reduceMul, Int.reduceNeg, Int.reduceLT, Int.reduceLE, Int.reduceEq, Int.reduceToNat, ↓reduceIte, Int.reducePow, Nat.reduceLeDiff, Nat.reduceLT, ne_eq, eq_self, List.length_cons, List.length_nil, qxE] | (with_reducible refine Sx.call_at (f := 31) (fun W hW => rx_ofU i1 W) ?_))
          · have e1 : s.tmod t = s % t := Int.tmod_eq_emod_of_nonneg i1.1
            have j0 := Int.emod_nonneg s ht
            have j1 := Int.emod_lt_of_pos s (show 0 < t by have := i2.1; omega)
            have j2 := gc_step i1.1 (show 0 < t by have := i2.1; omega)
            have j3 := i2.2
            repeat' (first | simp (disch := omega) only [sxE, r03_gcd.E, Nat.reduceAdd, Nat.reduceEqDiff, Nat.reduceMul, Nat.reduceSub, Int.reduceAdd, Int.reduceSub, Int.reduceMul, Int.reduceNeg, Int.reduceLT, Int.reduceLE, Int.reduceEq, Int.reduceToNat, ↓reduceIte, Int.reducePow, Nat.reduceLeDiff, Nat.reduceLT, ne_eq, eq_self, List.length_cons, List.length_nil, qxE, e1])
            exact ⟨(t, s % t), ⟨i2, ⟨j0, by dsimp only; omega⟩, j2⟩, by dsimp only; omega, by repeat' (first | (with_reducible rfl) | (exact Or.inl rfl) | apply And.intro)⟩
      · have u2 : unb x = false ∨ unb w = false := by
          rcases Int.lt_or_le x 18446744073709551616 with hl | hl
          · right; exact decide_eq_false (by omega)
          · left; exact decide_eq_false (by omega)
        have k1 := fun W => rx_unsigned h3 W
        have k2 := fun W => rx_unsigned h4 W
        generalize unb x = p1 at *
        generalize unb w = p2 at *
        generalize unv x = w1 at *
        generalize unv w = w2 at *
        clear hu
        cases p1
        · repeat' (first | simp (disch := omega) only [sxE, r03_gcd.E, Nat.reduceAdd, Nat.reduceEqDiff, Nat.reduceMul, Nat.reduceSub, Int.reduceAdd, Int.reduceSub, Int.reduceMul, Int.reduceNeg, Int.reduceLT, Int.reduceLE, Int.reduceEq, Int.reduceToNat, ↓reduceIte, Int.reducePow, Nat.reduceLeDiff, Nat.reduceLT, ne_eq, eq_self, List.length_cons, List.length_nil, qxE] | (with_reducible refine Sx.call_at (f := 47) (fun W hW => rx_sign h4 W) ?_) | (with_reducible refine Sx.call_at (f := 89) (fun W hW => k1 W) ?_) | (with_reducible refine Sx.call_at (f := 89) (fun W hW => k2 W) ?_) | (with_reducible refine Sx.call_at (f := 46) (fun W hW => rx_divmod h3 h4 hw W) ?_))
          exact ⟨(w, x % w), ⟨h2, hm0, h4, hq, hgs⟩, by dsimp only; omega, by repeat' (first | (with_reducible rfl) | (exact Or.inl rfl) | apply And.intro)⟩
        · obtain rfl : p2 = false := by rcases u2 with h | h; cases h; exact h
          repeat' (first | simp (disch := omega) only [sxE, r03_gcd.E, Nat.reduceAdd, Nat.reduceEqDiff, Nat.reduceMul, Nat.reduceSub, Int.reduceAdd, Int.reduceSub, Int.reduceMul, Int.reduceNeg, Int.reduceLT, Int.reduceLE, Int.reduceEq, Int.reduceToNat, ↓reduceIte, Int.reducePow, Nat.reduceLeDiff, Nat.reduceLT, ne_eq, eq_self, List.length_cons, List.length_nil, qxE] | (with_reducible refine Sx.call_at (f := 47) (fun W hW => rx_sign h4 W) ?_) | (with_reducible refine Sx.call_at (f := 89) (fun W hW => k1 W) ?_) | (with_reducible refine Sx.call_at (f := 89) (fun W hW => k2 W) ?_) | (with_reducible refine Sx.call_at (f := 46) (fun W hW => rx_divmod h3 h4 hw W) ?_))
          exact ⟨(w, x % w), ⟨h2, hm0, h4, hq, hgs⟩, by dsimp only; omega, by repeat' (first | (with_reducible rfl) | (exact Or.inl rfl) | apply And.intro)⟩
set_option maxRecDepth 100000 in
theorem rx_rvalid {p q : Int} (h : Fits p) (h' : Fits q) (W : World) : Gives Try.prog 42 [RX p q] W (· = .bool (rok true p q)) := by
  have hg := fits_gc h h'
  have hcm := cm_pos q
  have gq := fun (hq : 0 ≤ q) W => rx_gcd (fits_ab h) h' (ab_nonneg p) hq W
  rw [gc_abl] at gq
  refine gives_known en_r03_Valid ?_
  by_cases hq : 0 < q
  · have gq := gq (by omega)
    have hc0 : ¬ cm q 0 ≤ 0 := by omega
    refine known_of (enter Try.func42 r03_Valid.ok (args := [RX p q]) (by simp) ?_)
    repeat' (first | simp (disch := omega) only [sxE, r03_Valid.E, Nat.reduceAdd, Nat.reduceEqDiff, Nat.reduceMul, Nat.reduceSub, Int.reduceAdd, Int.reduceSub, Int.reduceMul, Int.reduceNeg, Int.reduceLT, Int.reduceLE, Int.reduceEq, Int.reduceToNat, ↓reduceIte, Int.reducePow, Nat.reduceLeDiff, Nat.reduceLT, ne_eq, eq_self, List.length_cons, List.length_nil, qxE] | (with_reducible refine Sx.call_at (f := 57) (fun W hW => rx_valid h W) ?_) | (with_reducible refine Sx.call_at (f := 57) (fun W hW => rx_valid h' W) ?_) | (with_reducible refine Sx.call_at (f := 47) (fun W hW => rx_sign h' W) ?_) | (with_reducible refine Sx.call_at (f := 82) (fun W hW => rx_small h W) ?_) | (with_reducible refine Sx.call_at (f := 82) (fun W hW => rx_small h' W) ?_) | (with_reducible refine Sx.call_at (f := 59) (fun W hW => rx_abs W) ?_) | (with_reducible refine Sx.call_at (f := 58) (fun W hW => gq W) ?_) | (with_reducible refine Sx.call_at (f := 77) (fun W hW => rx_one W) ?_) | ((with_reducible apply Sx.eq_is); (case h => exact fun W => eqx_run hg fits_one W); (case' hk => skip)) | ((with_reducible first | apply cond_beq | apply gd_beq) <;> (intro hc; first | simp only [beq_iff_eq.2 hc] | simp only [beq_eq_false_iff_ne.2 hc] | skip)) | ((with_reducible first | apply cond_dec | apply gd_dec) <;> (intro hc; first | simp only [decide_eq_true hc] | simp only [decide_eq_false hc] | skip)) | ((with_reducible first | apply cond_of | apply gd_of) <;> (intro hc; try simp only [hc])))
    all_goals (refine vb ?_; unfold rok; rw [Bool.eq_iff_iff]; simp_all <;> (intros; omega))
  · have hc0 : cm q 0 ≤ 0 := by omega
    have e : rok true p q = false := by unfold rok; rw [decide_eq_false hq]; rfl
    rw [e]
    refine known_of (enter Try.func42 r03_Valid.ok (args := [RX p q]) (by simp) ?_)
    repeat' (first | simp (disch := omega) only [sxE, r03_Valid.E, Nat.reduceAdd, Nat.reduceEqDiff, Nat.reduceMul, Nat.reduceSub, Int.reduceAdd, Int.reduceSub, Int.reduceMul, Int.reduceNeg, Int.reduceLT, Int.reduceLE, Int.reduceEq, Int.reduceToNat, ↓reduceIte, Int.reducePow, Nat.reduceLeDiff, Nat.reduceLT, ne_eq, eq_self, List.length_cons, List.length_nil, qxE] | (with_reducible refine Sx.call_at (f := 57) (fun W hW => rx_valid h W) ?_) | (with_reducible refine Sx.call_at (f := 57) (fun W hW => rx_valid h' W) ?_) | (with_reducible refine Sx.call_at (f := 47) (fun W hW => rx_sign h' W) ?_))
theorem rx_rvalid0 {v : Value} (h : BadR v) (W : World) : Gives Try.prog 42 [v] W (· = .bool false) := by
  refine gives_known en_r03_Valid ?_
  rcases h with ⟨q, h, rfl⟩ | ⟨p, h, rfl⟩ | rfl
  · refine known_of (enter Try.func42 r03_Valid.ok (args := [_]) (by simp) ?_)
    repeat' (first | simp (disch := omega) only [sxE, r03_Valid.E, Nat.reduceAdd, Nat.reduceEqDiff, Nat.reduceMul, Nat.reduceSub, Int.reduceAdd, Int.reduceSub, Int.reduceMul, Int.reduceNeg, Int.reduceLT, Int.reduceLE, Int.reduceEq, Int.reduceToNat, ↓reduceIte, Int.reducePow, Nat.reduceLeDiff, Nat.reduceLT, ne_eq, eq_self, List.length_cons, List.length_nil, qxE] | (with_reducible refine Sx.call_at (f := 57) (fun W hW => rx_valid0 W) ?_))
  · refine known_of (enter Try.func42 r03_Valid.ok (args := [_]) (by simp) ?_)
    repeat' (first | simp (disch := omega) only [sxE, r03_Valid.E, Nat.reduceAdd, Nat.reduceEqDiff, Nat.reduceMul, Nat.reduceSub, Int.reduceAdd, Int.reduceSub, Int.reduceMul, Int.reduceNeg, Int.reduceLT, Int.reduceLE, Int.reduceEq, Int.reduceToNat, ↓reduceIte, Int.reducePow, Nat.reduceLeDiff, Nat.reduceLT, ne_eq, eq_self, List.length_cons, List.length_nil, qxE] | (with_reducible refine Sx.call_at (f := 57) (fun W hW => rx_valid h W) ?_) | (with_reducible refine Sx.call_at (f := 57) (fun W hW => rx_valid0 W) ?_))
  · refine known_of (enter Try.func42 r03_Valid.ok (args := [_]) (by simp) ?_)
    repeat' (first | simp (disch := omega) only [sxE, r03_Valid.E, Nat.reduceAdd, Nat.reduceEqDiff, Nat.reduceMul, Nat.reduceSub, Int.reduceAdd, Int.reduceSub, Int.reduceMul, Int.reduceNeg, Int.reduceLT, Int.reduceLE, Int.reduceEq, Int.reduceToNat, ↓reduceIte, Int.reducePow, Nat.reduceLeDiff, Nat.reduceLT, ne_eq, eq_self, List.length_cons, List.length_nil, qxE] | (with_reducible refine Sx.call_at (f := 57) (fun W hW => rx_valid0 W) ?_))
theorem rx_rof {z : Int} (h : I64 z) (W : World) : Gives Try.prog 37 [.int .i64 z] W (· = RX z 1) := by
  refine gives_known en_r03_Of ?_
  refine known_of (enter Try.func37 r03_Of.ok (args := [_]) (by simp) ?_)
  repeat' (first | simp (disch := omega) only [sxE, r03_Of.E, Nat.reduceAdd, Nat.reduceEqDiff, Nat.reduceMul, Nat.reduceSub, Int.reduceAdd, Int.reduceSub, Int.reduceMul, Int.reduceNeg, Int.reduceLT, Int.reduceLE, Int.reduceEq, Int.reduceToNat, ↓reduceIte, Int.reducePow, Nat.reduceLeDiff, Nat.reduceLT, ne_eq, eq_self, List.length_cons, List.length_nil, qxE] | (with_reducible refine Sx.call_at (f := 16) (fun W hW => rx_of h W) ?_) | (with_reducible refine Sx.call_at (f := 77) (fun W hW => rx_one W) ?_))
theorem x_foldR01 (q : Int) : Value.agg [.bool false, .int .u64 0, .int .u64 0, .int .u64 0, .int .u64 0, .bool (sg q), .int .u64 (lb0 (ab q)), .int .u64 (lb1 (ab q)), .int .u64 (lb2 (ab q)), .int .u64 (lb3 (ab q))].toArray = RX 0 q := rfl
set_option maxRecDepth 100000 in
theorem rx_rclean {v : Value} {p q : Int} (h : CQ v p q) (W : World) : Gives Try.prog 65 [v] W (· = RX p q) := by
  refine gives_known en_r03_clean ?_
  rcases h with ⟨x, y, h1, h2, rfl, rfl, rfl⟩ | ⟨h, rfl, rfl⟩
  · unfold qn qd
    cases hk : rok true x y
    · refine known_of (enter Try.func65 r03_clean.ok (args := [_]) (by simp) ?_)
      repeat' (first | simp (disch := omega) only [sxE, r03_clean.E, Nat.reduceAdd, Nat.reduceEqDiff, Nat.reduceMul, Nat.reduceSub, Int.reduceAdd, Int.reduceSub, Int.reduceMul, Int.reduceNeg, Int.reduceLT, Int.reduceLE, Int.reduceEq, Int.reduceToNat, ↓reduceIte, Int.reducePow, Nat.reduceLeDiff, Nat.reduceLT, ne_eq, eq_self, List.length_cons, List.length_nil, qxE, hk, x_foldR01] | (with_reducible refine Sx.call_at (f := 42) (fun W hW => rx_rvalid h1 h2 W) ?_) | (with_reducible refine Sx.call_at (f := 77) (fun W hW => rx_one W) ?_))
    · refine known_of (enter Try.func65 r03_clean.ok (args := [_]) (by simp) ?_)
      repeat' (first | simp (disch := omega) only [sxE, r03_clean.E, Nat.reduceAdd, Nat.reduceEqDiff, Nat.reduceMul, Nat.reduceSub, Int.reduceAdd, Int.reduceSub, Int.reduceMul, Int.reduceNeg, Int.reduceLT, Int.reduceLE, Int.reduceEq, Int.reduceToNat, ↓reduceIte, Int.reducePow, Nat.reduceLeDiff, Nat.reduceLT, ne_eq, eq_self, List.length_cons, List.length_nil, qxE, hk] | (with_reducible refine Sx.call_at (f := 42) (fun W hW => rx_rvalid h1 h2 W) ?_))
  · have hv := fun W => rx_rvalid0 h W
    rcases h with ⟨q, h, rfl⟩ | ⟨p, h, rfl⟩ | rfl
    · refine known_of (enter Try.func65 r03_clean.ok (args := [_]) (by simp) ?_)
      repeat' (first | simp (disch := omega) only [sxE, r03_clean.E, Nat.reduceAdd, Nat.reduceEqDiff, Nat.reduceMul, Nat.reduceSub, Int.reduceAdd, Int.reduceSub, Int.reduceMul, Int.reduceNeg, Int.reduceLT, Int.reduceLE, Int.reduceEq, Int.reduceToNat, ↓reduceIte, Int.reducePow, Nat.reduceLeDiff, Nat.reduceLT, ne_eq, eq_self, List.length_cons, List.length_nil, qxE, x_foldR01] | (with_reducible refine Sx.call_at (f := 42) (fun W hW => hv W) ?_) | (with_reducible refine Sx.call_at (f := 77) (fun W hW => rx_one W) ?_))
    · refine known_of (enter Try.func65 r03_clean.ok (args := [_]) (by simp) ?_)
      repeat' (first | simp (disch := omega) only [sxE, r03_clean.E, Nat.reduceAdd, Nat.reduceEqDiff, Nat.reduceMul, Nat.reduceSub, Int.reduceAdd, Int.reduceSub, Int.reduceMul, Int.reduceNeg, Int.reduceLT, Int.reduceLE, Int.reduceEq, Int.reduceToNat, ↓reduceIte, Int.reducePow, Nat.reduceLeDiff, Nat.reduceLT, ne_eq, eq_self, List.length_cons, List.length_nil, qxE, x_foldR01] | (with_reducible refine Sx.call_at (f := 42) (fun W hW => hv W) ?_) | (with_reducible refine Sx.call_at (f := 77) (fun W hW => rx_one W) ?_))
    · refine known_of (enter Try.func65 r03_clean.ok (args := [_]) (by simp) ?_)
      repeat' (first | simp (disch := omega) only [sxE, r03_clean.E, Nat.reduceAdd, Nat.reduceEqDiff, Nat.reduceMul, Nat.reduceSub, Int.reduceAdd, Int.reduceSub, Int.reduceMul, Int.reduceNeg, Int.reduceLT, Int.reduceLE, Int.reduceEq, Int.reduceToNat, ↓reduceIte, Int.reducePow, Nat.reduceLeDiff, Nat.reduceLT, ne_eq, eq_self, List.length_cons, List.length_nil, qxE, x_foldR01] | (with_reducible refine Sx.call_at (f := 42) (fun W hW => hv W) ?_) | (with_reducible refine Sx.call_at (f := 77) (fun W hW => rx_one W) ?_))
theorem rx_rcompare {v v' : Value} {p q p' q' : Int} (h : CQ v p q) (h' : CQ v' p' q') (W : World) : Gives Try.prog 28 [v, v'] W (· = .int .i64 (cq p q p' q')) := by
  obtain ⟨c0, c1, c2, c3, c4, c5, c6, c7, c8, c9, rfl⟩ := h.ten
  obtain ⟨d0, d1, d2, d3, d4, d5, d6, d7, d8, d9, rfl⟩ := h'.ten
  have f := h.fq
  have f' := h'.fq
  have m1 := f.fm f'
  have m2 := f'.fm f
  refine gives_known en_r03_Compare ?_
  refine known_of (enter Try.func28 r03_Compare.ok (args := [_, _]) (by simp) ?_)
  repeat' (first | simp (disch := omega) only [sxE, r03_Compare.E, Nat.reduceAdd, Nat.reduceEqDiff, Nat.reduceMul, Nat.reduceSub, Int.reduceAdd, Int.reduceSub, Int.reduceMul, Int.reduceNeg, Int.reduceLT, Int.reduceLE, Int.reduceEq, Int.reduceToNat, ↓reduceIte, Int.reducePow, Nat.reduceLeDiff, Nat.reduceLT, ne_eq, eq_self, List.length_cons, List.length_nil, qxE] | (with_reducible refine Sx.call_at (f := 65) (fun W hW => rx_rclean h W) ?_) | (with_reducible refine Sx.call_at (f := 65) (fun W hW => rx_rclean h' W) ?_) | (with_reducible refine Sx.call_at (f := 29) (fun W hW => rx_mul f.fp f'.fq m1 W) ?_) | (with_reducible refine Sx.call_at (f := 29) (fun W hW => rx_mul f'.fp f.fq m2 W) ?_) | (with_reducible refine Sx.call_at (f := 33) (fun W hW => rx_compare m1 m2 W) ?_))
  rfl
theorem rx_rfloor {v : Value} {p q : Int} (h : CQ v p q) (W : World) : Gives Try.prog 74 [v] W (· = WX (p / q)) := by
  obtain ⟨c0, c1, c2, c3, c4, c5, c6, c7, c8, c9, rfl⟩ := h.ten
  have f := h.fq
  refine gives_known en_r03_Floor ?_
  refine known_of (enter Try.func74 r03_Floor.ok (args := [_]) (by simp) ?_)
  repeat' (first | simp (disch := omega) only [sxE, r03_Floor.E, Nat.reduceAdd, Nat.reduceEqDiff, Nat.reduceMul, Nat.reduceSub, Int.reduceAdd, Int.reduceSub, Int.reduceMul, Int.reduceNeg, Int.reduceLT, Int.reduceLE, Int.reduceEq, Int.reduceToNat, ↓reduceIte, Int.reducePow, Nat.reduceLeDiff, Nat.reduceLT, ne_eq, eq_self, List.length_cons, List.length_nil, qxE] | (with_reducible refine Sx.call_at (f := 65) (fun W hW => rx_rclean h W) ?_) | (with_reducible refine Sx.call_at (f := 46) (fun W hW => rx_divmod f.fp f.fq f.ne W) ?_))
theorem rx_rceil {v : Value} {p q : Int} (h : CQ v p q) (W : World) : Gives Try.prog 75 [v] W (· = WX (-(-p / q))) := by
  obtain ⟨c0, c1, c2, c3, c4, c5, c6, c7, c8, c9, rfl⟩ := h.ten
  have f := h.fq
  have f2 := f.neg
  have f3 := fits_ediv f2.fp f2.ne
  refine gives_known en_r03_Ceil ?_
  refine known_of (enter Try.func75 r03_Ceil.ok (args := [_]) (by simp) ?_)
  repeat' (first | simp (disch := omega) only [sxE, r03_Ceil.E, Nat.reduceAdd, Nat.reduceEqDiff, Nat.reduceMul, Nat.reduceSub, Int.reduceAdd, Int.reduceSub, Int.reduceMul, Int.reduceNeg, Int.reduceLT, Int.reduceLE, Int.reduceEq, Int.reduceToNat, ↓reduceIte, Int.reducePow, Nat.reduceLeDiff, Nat.reduceLT, ne_eq, eq_self, List.length_cons, List.length_nil, qxE] | (with_reducible refine Sx.call_at (f := 65) (fun W hW => rx_rclean h W) ?_) | (with_reducible refine Sx.call_at (f := 48) (fun W hW => rx_neg f.fp W) ?_) | (with_reducible refine Sx.call_at (f := 48) (fun W hW => rx_neg f3 W) ?_) | (with_reducible refine Sx.call_at (f := 46) (fun W hW => rx_divmod f2.fp f2.fq f2.ne W) ?_))
theorem rx_rat {v : Value} {p q n : Int} (h : CQ v p q) (hn : U64 n) (W : World) : Gives Try.prog 76 [v, .int .u64 n] W (· = WX (atq p q n)) := by
  obtain ⟨c0, c1, c2, c3, c4, c5, c6, c7, c8, c9, rfl⟩ := h.ten
  have f := h.fq
  have b1 := bd_mul f.bp (bd_u64 hn)
  have b2 : Bd 192 (p * n + p * n) := bd_add b1 b1 (by decide) (by decide)
  have b3 : Bd 193 (p * n + p * n + q) := bd_add b2 f.bq (by decide) (by decide)
  have b4 : Bd 128 (q + q) := bd_add f.bq f.bq (by decide) (by decide)
  have f1 := b1.fits
  have f2 := b2.fits
  have f3 := b3.fits
  have f4 := b4.fits
  have fn := (bd_u64 hn).fits
  have ne : q + q ≠ 0 := by have := f.pos; omega
  have e : atq p q n = (p * n + p * n + q) / (q + q) := by unfold atq; rw [Int.two_mul, Int.two_mul]
  rw [e]
  clear b1 b2 b3 b4 e
  refine gives_known en_r03_At ?_
  refine known_of (enter Try.func76 r03_At.ok (args := [_, _]) (by simp) ?_)
  repeat' (first | simp (disch := omega) only [sxE, r03_At.E, Nat.reduceAdd, Nat.reduceEqDiff, Nat.reduceMul, Nat.reduceSub, Int.reduceAdd, Int.reduceSub, Int.reduceMul, Int.reduceNeg, Int.reduceLT, Int.reduceLE, Int.reduceEq, Int.reduceToNat, ↓reduceIte, Int.reducePow, Nat.reduceLeDiff, Nat.reduceLT, ne_eq, eq_self, List.length_cons, List.length_nil, qxE] | (with_reducible refine Sx.call_at (f := 65) (fun W hW => rx_rclean h W) ?_) | (with_reducible refine Sx.call_at (f := 31) (fun W hW => rx_ofU hn W) ?_) | (with_reducible refine Sx.call_at (f := 29) (fun W hW => rx_mul f.fp fn f1 W) ?_) | (with_reducible refine Sx.call_at (f := 32) (fun W hW => rx_add f1 f1 f2 W) ?_) | (with_reducible refine Sx.call_at (f := 32) (fun W hW => rx_add f2 f.fq f3 W) ?_) | (with_reducible refine Sx.call_at (f := 32) (fun W hW => rx_add f.fq f.fq f4 W) ?_) | (with_reducible refine Sx.call_at (f := 46) (fun W hW => rx_divmod f3 f4 ne W) ?_))
theorem sg_beq (z y : Int) : (sg z == sg y) = decide ((z < 0) ↔ (y < 0)) := by
  unfold sg
  by_cases h : z < 0 <;> by_cases h' : y < 0 <;> simp [h, h']
theorem mn_sg {z y : Int} (hy : y ≠ 0) : ((z < 0 ↔ y < 0) → mn z y = ab z / gc z y) ∧ (¬ (z < 0 ↔ y < 0) → mn z y = -(ab z / gc z y)) := by
  have hd : gc z y ∣ z := gc_dvd_l z y
  unfold mn ab
  by_cases h : z < 0 <;> by_cases h' : y < 0 <;> simp only [h, h', if_true, if_false, iff_true, iff_false, not_true_eq_false, not_false_eq_true, false_implies, true_implies, and_true, true_and, forall_const]
  · rw [Int.neg_ediv_of_dvd hd, Int.neg_neg]
  · exact Int.neg_ediv_of_dvd hd
set_option maxRecDepth 100000 in
theorem rx_rmake {v v' : Value} {b b' : Bool} {z y : Int} (h : RW v b z) (h' : RW v' b' y) (W : World) : Gives Try.prog 20 [v, v'] W (· = mkV (b && b') z y) := by
  refine gives_known en_r03_Make ?_
  have v1 := fun W => ry_valid h W
  have v2 := fun W => ry_valid h' W
  have s2 := fun W => rg_sign h'.is W
  by_cases hbad : b = false ∨ b' = false ∨ y = 0
  · have e : mkV (b && b') z y = .tuple #[RX 0 0, .bool false] := by
      unfold mkV mok
      rcases hbad with rfl | rfl | rfl
      · rfl
      · rw [Bool.and_false]; rfl
      · rw [if_neg (by simp)]
    rw [e]
    obtain ⟨c0, c1, c2, c3, c4, rfl⟩ := h.five
    obtain ⟨d0, d1, d2, d3, d4, rfl⟩ := h'.five
    have hcm := cm_zero_iff y
    clear e h h'
    cases b
    · refine known_of (enter Try.func20 r03_Make.ok (args := [_, _]) (by simp) ?_)
      repeat' (first | simp (disch := omega) only [sxE, r03_Make.E, Nat.reduceAdd, Nat.reduceEqDiff, Nat.reduceMul, Nat.reduceSub, Int.reduceAdd, Int.reduceSub, Int.reduceMul, Int.reduceNeg, Int.reduceLT, Int.reduceLE, Int.reduceEq, Int.reduceToNat, ↓reduceIte, Int.reducePow, Nat.reduceLeDiff, Nat.reduceLT, ne_eq, eq_self, List.length_cons, List.length_nil, qxE] | (with_reducible refine Sx.call_at (f := 57) (fun W hW => v1 W) ?_))
    · cases b'
      · refine known_of (enter Try.func20 r03_Make.ok (args := [_, _]) (by simp) ?_)
        repeat' (first | simp (disch := omega) only [sxE, r03_Make.E, Nat.reduceAdd, Nat.reduceEqDiff, Nat.reduceMul, Nat.reduceSub, Int.reduceAdd, Int.reduceSub, Int.reduceMul, Int.reduceNeg, Int.reduceLT, Int.reduceLE, Int.reduceEq, Int.reduceToNat, ↓reduceIte, Int.reducePow, Nat.reduceLeDiff, Nat.reduceLT, ne_eq, eq_self, List.length_cons, List.length_nil, qxE] | (with_reducible refine Sx.call_at (f := 57) (fun W hW => v1 W) ?_) | (with_reducible refine Sx.call_at (f := 57) (fun W hW => v2 W) ?_))
      · have hc0 : cm y 0 = 0 := hcm.2 (by rcases hbad with h | h | h; cases h; cases h; exact h)
        clear hcm hbad
        refine known_of (enter Try.func20 r03_Make.ok (args := [_, _]) (by simp) ?_)
        repeat' (first | simp (disch := omega) only [sxE, r03_Make.E, Nat.reduceAdd, Nat.reduceEqDiff, Nat.reduceMul, Nat.reduceSub, Int.reduceAdd, Int.reduceSub, Int.reduceMul, Int.reduceNeg, Int.reduceLT, Int.reduceLE, Int.reduceEq, Int.reduceToNat, ↓reduceIte, Int.reducePow, Nat.reduceLeDiff, Nat.reduceLT, ne_eq, eq_self, List.length_cons, List.length_nil, qxE, hc0] | (with_reducible refine Sx.call_at (f := 57) (fun W hW => v1 W) ?_) | (with_reducible refine Sx.call_at (f := 57) (fun W hW => v2 W) ?_) | (with_reducible refine Sx.call_at (f := 47) (fun W hW => s2 W) ?_))
  · obtain ⟨rfl, rfl⟩ : b = true ∧ b' = true := by
      cases b
      · exact absurd (.inl rfl) hbad
      · cases b'
        · exact absurd (.inr (.inl rfl)) hbad
        · exact ⟨rfl, rfl⟩
    have hy : y ≠ 0 := fun e => hbad (.inr (.inr e))
    rcases h with ⟨-, rfl, h⟩ | ⟨h, -, -⟩
    rotate_left
    · cases h
    rcases h' with ⟨-, rfl, h'⟩ | ⟨h', -, -⟩
    rotate_left
    · cases h'
    have hc0 : cm y 0 ≠ 0 := fun e => hy ((cm_zero_iff y).1 e)
    have f1 := fits_mn h hy
    have f2 := fits_mD (z := z) h' hy
    have a1 := fits_ab h
    have a2 := fits_ab h'
    have hg := fits_gc h h'
    have hgp := gc_pos (x := z) hy
    have hgn : gc z y ≠ 0 := by omega
    have e : mkV (true && true) z y = if rok true (mn z y) (mD z y) = true then .tuple #[RX (mn z y) (mD z y), .bool true] else .tuple #[RX 0 0, .bool false] := by
      unfold mkV mok rok
      rw [decide_eq_false hy, decide_eq_true (mk_pos hy), decide_eq_true (mk_gc hy)]
      simp only [Bool.and_true, Bool.true_and, Bool.not_false]
    rw [e]
    have k1 := fun W => rx_rvalid f1 f2 W
    generalize rok true (mn z y) (mD z y) = t at *
    clear e hbad
    have sb := sg_beq z y
    have gg := fun W => rx_gcd a1 a2 (ab_nonneg z) (ab_nonneg y) W
    rw [gc_abs] at gg
    have d1 := fun W => rx_divmod a1 hg hgn W
    have d2 := fun W => rx_divmod a2 hg hgn W
    have e2 : ab y / gc z y = mD z y := rfl
    rw [e2] at d2
    have f3 := fits_ediv a1 hgn
    obtain ⟨m1, m2⟩ := mn_sg (z := z) hy
    by_cases hs : (z < 0 ↔ y < 0)
    · have e1 := m1 hs
      rw [e1] at k1 f1 ⊢
      rw [decide_eq_true hs] at sb
      clear m1 m2 e1 e2 hs
      generalize ab z / gc z y = N at *
      generalize mD z y = D at *
      generalize gc z y = G at *
      cases t
      all_goals
        refine known_of (enter Try.func20 r03_Make.ok (args := [_, _]) (by simp) ?_)
        repeat' (first | simp (disch := omega) only [sxE, r03_Make.E, Nat.reduceAdd, Nat.reduceEqDiff, Nat.reduceMul, Nat.reduceSub, Int.reduceAdd, Int.reduceSub, Int.reduceMul, Int.reduceNeg, Int.reduceLT, Int.reduceLE, Int.reduceEq, Int.reduceToNat, ↓reduceIte, Int.reducePow, Nat.reduceLeDiff, Nat.reduceLT, ne_eq, eq_self, List.length_cons, List.length_nil, qxE, sb] | (with_reducible refine Sx.call_at (f := 57) (fun W hW => v1 W) ?_) | (with_reducible refine Sx.call_at (f := 57) (fun W hW => v2 W) ?_) | (with_reducible refine Sx.call_at (f := 47) (fun W hW => s2 W) ?_) | (with_reducible refine Sx.call_at (f := 59) (fun W hW => rx_abs W) ?_) | (with_reducible refine Sx.call_at (f := 58) (fun W hW => gg W) ?_) | (with_reducible refine Sx.call_at (f := 46) (fun W hW => d1 W) ?_) | (with_reducible refine Sx.call_at (f := 46) (fun W hW => d2 W) ?_) | (with_reducible refine Sx.call_at (f := 42) (fun W hW => k1 W) ?_))
        try rfl
    · have e1 := m2 hs
      rw [e1] at k1 f1 ⊢
      rw [decide_eq_false hs] at sb
      clear m1 m2 e1 e2 hs
      generalize ab z / gc z y = N at *
      generalize mD z y = D at *
      generalize gc z y = G at *
      cases t
      all_goals
        refine known_of (enter Try.func20 r03_Make.ok (args := [_, _]) (by simp) ?_)
        repeat' (first | simp (disch := omega) only [sxE, r03_Make.E, Nat.reduceAdd, Nat.reduceEqDiff, Nat.reduceMul, Nat.reduceSub, Int.reduceAdd, Int.reduceSub, Int.reduceMul, Int.reduceNeg, Int.reduceLT, Int.reduceLE, Int.reduceEq, Int.reduceToNat, ↓reduceIte, Int.reducePow, Nat.reduceLeDiff, Nat.reduceLT, ne_eq, eq_self, List.length_cons, List.length_nil, qxE, sb] | (with_reducible refine Sx.call_at (f := 57) (fun W hW => v1 W) ?_) | (with_reducible refine Sx.call_at (f := 57) (fun W hW => v2 W) ?_) | (with_reducible refine Sx.call_at (f := 47) (fun W hW => s2 W) ?_) | (with_reducible refine Sx.call_at (f := 59) (fun W hW => rx_abs W) ?_) | (with_reducible refine Sx.call_at (f := 58) (fun W hW => gg W) ?_) | (with_reducible refine Sx.call_at (f := 46) (fun W hW => d1 W) ?_) | (with_reducible refine Sx.call_at (f := 46) (fun W hW => d2 W) ?_) | (with_reducible refine Sx.call_at (f := 48) (fun W hW => rx_neg f3 W) ?_) | (with_reducible refine Sx.call_at (f := 42) (fun W hW => k1 W) ?_))
        try rfl
end Go.Proofs.Ytlanoclibdhpmaa

/- Tp: A symbolic run: calls that move a tape. -/
namespace Go.Proofs.Ytlanoclibdhpmaa
open Go Go.RowKit Sx
set_option linter.unusedVariables false
set_option linter.unusedSimpArgs false
namespace Sx
variable {C : Cx} {S : St} {K : St → Prop} {d : Option Nat}
/-- What is known of a tape in the caller's world w: it is a tape, and nothing else of w has turned. -/
def hK (w : World) (tb B Bm : Nat) : KnG where
  bs := List.range' tb (w.heap.size - tb)
  ok n W := n = tb ∧ (tb < w.heap.size ∧ B ≤ w.heap.size) ∧ TapeOk B Bm W tb ∧ w.heap.size ≤ W.heap.size ∧ ∀ i, i < w.heap.size → i ≠ tb → W.heap[i]? = w.heap[i]?
  lt := fun {n W} h b hb => by
    obtain ⟨h0, ⟨h1, h1b⟩, h2, h3, -⟩ := h
    rw [List.mem_range'] at hb
    obtain ⟨i, hi, rfl⟩ := hb
    omega
  keep := fun {n W W'} h hs hb ho => by
    obtain ⟨h0, ⟨hw, hB⟩, ⟨a, len, cap, k, h1, h2, h3, h4, h5, h6, h7, h8⟩, hsz, hg⟩ := h
    have all : ∀ i, i < w.heap.size → W'.heap[i]? = W.heap[i]? := fun i hi => by
      rcases Nat.lt_or_ge i tb with h | h
      · exact ho i (by omega) (by omega)
      · exact hb i (List.mem_range'.2 ⟨i - tb, by omega, by omega⟩)
    have ht := all tb hw
    refine ⟨h0, ⟨hw, hB⟩, ⟨a, len, cap, k, h1, Nat.le_trans h2 hs, (World.cell?_of_block (a := ⟨tb, 0, none⟩) ht).trans h3, (World.cell?_of_block (a := ⟨tb, 1, none⟩) ht).trans h4, (World.frozen?_of_block (a := ⟨tb, 1, none⟩) ht).trans h5, h6, h7, fun hl => ?_⟩, Nat.le_trans hsz hs, fun i hi hn => (all i hi).trans (hg i hi hn)⟩
    obtain ⟨bb, off, e, hne, hlt, hlm, hc⟩ := h8 hl
    refine ⟨bb, off, e, hne, hlt, hlm, fun i hi => ?_⟩
    obtain ⟨x, hx, hix⟩ := hc i hi
    exact ⟨x, (World.cell?_of_block (a := ⟨bb, off + i, none⟩) (all bb (by omega))).trans hx, hix⟩
/-- It tells of the tape in block tb, and goes on behind calls that move it. -/
structure TpK (k : KnG) (n tb B Bm : Nat) : Prop where
  tape : ∀ {W}, k.ok n W → TapeOk B Bm W tb
  go : ∀ {W W'}, k.ok n W → TapeOk B Bm W' tb → W.grownBy W' (some tb) → k.ok n W'
  ge : ∀ {W}, k.ok n W → n ≤ tb
  mem : ∀ {W}, k.ok n W → tb ∈ k.bs
theorem tpk_t (n tb : Nat) : TpK (tK tb) n tb (tb + 1) n where
  tape h := h.2
  go h ht hg := ⟨h.1, ht⟩
  ge h := h.1
  mem h := List.mem_singleton.2 rfl
theorem tpk_h (w : World) (tb B Bm : Nat) : TpK (hK w tb B Bm) tb tb B Bm where
  tape h := h.2.2.1
  go h ht hg := ⟨h.1, h.2.1, ht, Nat.le_trans h.2.2.2.1 hg.size, fun i hi hn => (hg.block i (Nat.lt_of_lt_of_le hi h.2.2.2.1) (fun e => hn (Option.some.inj e))).trans (h.2.2.2.2 i hi hn)⟩
  ge h := Nat.le_of_eq h.1
  mem h := List.mem_range'.2 ⟨0, by have := h.2.1; omega, by omega⟩
/-- A call that moves the tape and nothing else that is known. -/
theorem asks_tp {f : FuncId} {l : List Value} {L : List Kn} {ι : Type} {P : ι → Prop} {k : KnG} {tb B Bm : Nat} (v : ι → Value) (hk : TpK k C.w0.heap.size tb B Bm) (he : ∀ (l : Array Value) W, (callFunc f l).run C.P W = .ok (.enter f l) W) (hT : S.T = kX C.w0.heap.size L) (hm : .g k ∈ L) (hmv : C.mv S = S.T.bs)
    (hL : ∀ j ∈ L, j = .g k ∨ tb ∉ j.bs)
    (h : ∀ W, TapeOk B Bm W tb → Calls C.P f l.toArray W fun e w' => ∃ i, P i ∧ e = .returned (v i) ∧ TapeOk B Bm w' tb ∧ W.grownBy w' (some tb))
    (hK : ∀ i, P i → K (St.put S d (.v (v i)))) : asks C f l d K S := by
  refine asks_T (ι := {i // P i}) (fun i => v i.1) (fun _ => S.T) (fun W hW hok hbs => givesT_calls he (fun i => by rw [hT]; exact kX_stab C L) ?_) (fun i => hK i.1 i.2)
  rw [hT] at hok
  have ho : k.ok C.w0.heap.size W := hok _ hm
  refine (h W (hk.tape ho)).mono fun e w' ⟨i, hi, he, h1, h2⟩ => ⟨⟨i, hi⟩, he, ⟨h2.os, h2.tape, h2.output, h2.size, fun j hj hn => h2.block j hj fun e => hn (by cases e; rw [hmv, hT]; exact kX_bs.2 ⟨_, hm, hk.mem ho⟩)⟩, ?_, fun b hb => ⟨.inl hb, ?_⟩⟩
  · rw [hT]
    intro j hj
    rcases hL j hj with rfl | hb
    · exact hk.go ho h1 h2
    · refine (hok j hj).keep h2.size (fun b hbb => h2.block b ((hok j hj).lt b hbb).2 fun e => hb (by cases e; exact hbb)) fun b hbn hbl => h2.block b hbl fun e => ?_
      have := hk.ge ho
      have e2 : b = tb := Option.some.inj e
      omega
  · rw [hT] at hb
    exact Nat.lt_of_lt_of_le (kX_lt hok b hb).2 h2.size
/-- The start of a function that is given a tape. -/
theorem hK_start {w : World} {tb B Bm : Nat} (h : TapeOk B Bm w tb) : (kX (cut w tb).heap.size [.g (hK w tb B Bm)]).ok w ∧ ∀ b ∈ (kX (cut w tb).heap.size [.g (hK w tb B Bm)]).bs, (cut w tb).heap.size ≤ b ∧ b < w.heap.size := by
  have hc := cut_size (Nat.le_of_lt h.lt)
  have h1 : (kX (cut w tb).heap.size [.g (hK w tb B Bm)]).ok w := fun k hk => by
    rw [List.mem_singleton.1 hk]
    exact ⟨hc, ⟨h.lt, h.leB⟩, h, Nat.le_refl _, fun _ _ _ => rfl⟩
  exact ⟨h1, kX_lt h1⟩
theorem hK_end {w w' : World} {tb B Bm : Nat} {L : List Kn} (h : (kX (cut w tb).heap.size L).ok w') (hm : .g (hK w tb B Bm) ∈ L) (hb : Below (cut w tb).heap.size (cut w tb) w') : TapeOk B Bm w' tb ∧ w.grownBy w' (some tb) := by
  have hk : (hK w tb B Bm).ok (cut w tb).heap.size w' := h _ hm
  exact ⟨hk.2.2.1, hb.os, hb.tape, hb.output, hk.2.2.2.1, fun i hi hn => hk.2.2.2.2 i hi fun e => hn (by rw [e])⟩
theorem tpk_h' {w : World} {tb B Bm : Nat} (h : TapeOk B Bm w tb) : TpK (hK w tb B Bm) (cut w tb).heap.size tb B Bm := by
  rw [cut_size (Nat.le_of_lt h.lt)]; exact tpk_h w tb B Bm
end Sx
/-- What a call that moves the tape in block tb gives. -/
def TpC (f : FuncId) (l : List Value) (tb : Nat) {ι : Type} (P : ι → Prop) (v : ι → Value) : Prop := ∀ {B Bm : Nat} (W : World), TapeOk B Bm W tb → Calls Try.prog f l.toArray W fun e w' => ∃ i, P i ∧ e = .returned (v i) ∧ TapeOk B Bm w' tb ∧ W.grownBy w' (some tb)
theorem t_next (tb : Nat) {n : Int} (h1 : 1 ≤ n) (h2 : n ≤ 1000000) : TpC 18 [.pointer (some ⟨tb, 0, none⟩), .int .i64 n] tb (fun r : Int => 0 ≤ r ∧ r < n) (fun r => .int .i64 r) :=
  fun W h => (next_in tb n h1 h2 W h).mono fun e w' ⟨r, a, b, c, d⟩ => ⟨r, a, b, c, d⟩
theorem t_bool (tb : Nat) {n : Int} (h1 : 2 ≤ n) (h2 : n ≤ 1000) : TpC 49 [.pointer (some ⟨tb, 0, none⟩), .int .i64 n] tb (fun _ : Bool => True) (fun r => .bool r) :=
  fun W h => (bool_any tb n h1 h2 W h).mono fun e w' ⟨r, b, c, d⟩ => ⟨r, trivial, b, c, d⟩
theorem t_word (tb : Nat) : TpC 35 [.pointer (some ⟨tb, 0, none⟩)] tb U64 (fun r => .int .u64 r) :=
  fun W h => (word_any tb W h).mono fun e w' ⟨r, a, b, c, d⟩ => ⟨r, a, b, c, d⟩
theorem t_int (tb : Nat) : TpC 17 [.pointer (some ⟨tb, 0, none⟩)] tb I64 (fun r => .int .i64 r) :=
  fun W h => (int_any tb W h).mono fun e w' ⟨r, a, b, c, d⟩ => ⟨r, a, b, c, d⟩
/-- A raw Wide by its cells. -/
structure RC where
  c0 : Value
  c1 : Value
  c2 : Value
  c3 : Value
  c4 : Value
def RC.v (c : RC) : Value := .agg #[c.c0, c.c1, c.c2, c.c3, c.c4]
theorem t_wide (tb : Nat) : TpC 15 [.pointer (some ⟨tb, 0, none⟩)] tb (fun c : RC => ∃ t z, RW (.agg #[c.c0, c.c1, c.c2, c.c3, c.c4]) t z) (fun c => .agg #[c.c0, c.c1, c.c2, c.c3, c.c4]) :=
  fun W h => (twide_any tb W h).mono fun e w' ⟨n, a, b, c, d, ha, hb, hc, hd, he, h1, h2⟩ => ⟨⟨.bool n, .int .u64 a, .int .u64 b, .int .u64 c, .int .u64 d⟩, rw_raw n ha hb hc hd, he, h1, h2⟩
theorem asks_tc {C : Cx} {S : St} {K : St → Prop} {d : Option Nat} {f : FuncId} {l : List Value} {L : List Kn} {ι : Type} {P : ι → Prop} {v : ι → Value} {k : KnG} {tb B Bm : Nat} (hP : C.P = Try.prog) (hk : TpK k C.w0.heap.size tb B Bm) (h : TpC f l tb P v) (he : ∀ (l : Array Value) W, (callFunc f l).run Try.prog W = .ok (.enter f l) W) (hT : S.T = kX C.w0.heap.size L) (hm : .g k ∈ L) (hmv : C.mv S = S.T.bs)
    (hL : ∀ j ∈ L, j = .g k ∨ tb ∉ j.bs) (hK : ∀ i, P i → K (St.put S d (.v (v i)))) : asks C f l d K S :=
  asks_tp v hk (by rw [hP]; exact he) hT hm hmv hL (fun W hW => by rw [hP]; exact h W hW) hK
end Go.Proofs.Ytlanoclibdhpmaa

/- CdT: MADE BY PROGRAM (sxgen.py): the small code of some functions, points of it and their equations. -/
namespace Go.Proofs.Ytlanoclibdhpmaa
open Go Go.RowKit Sx
set_option linter.unusedVariables false
variable (C : Cx) (R L1 L2 L3 L4 : St → Prop)
namespace m_Tape__Ratio
def r0 : List G := [(some 2, none, (.new zR))]
def r1 : List G := [(some 7, none, (.mv (.tmp 0))), (some 8, none, (.call false 18 [(.tmp 7), (.const (.int .i64 200))])), (some 9, none, (.bin .sub (.tmp 8) (.const (.int .i64 100)))), (some 10, none, (.call false 16 [(.tmp 9)])), (some 11, none, (.mv (.tmp 0))), (some 12, none, (.call false 18 [(.tmp 11), (.const (.int .i64 60))])), (some 13, none, (.bin .add (.const (.int .i64 1)) (.tmp 12))), (some 14, none, (.call false 16 [(.tmp 13)])), (some 3, none, (.new zW)), (some 4, none, (.new zW)), (none, none, (.st true 5 (.tmp 3) (.tmp 10))), (none, none, (.st true 5 (.tmp 4) (.tmp 14)))]
def r2 : List G := [(some 15, none, (.mv (.tmp 0))), (some 16, none, (.call false 49 [(.tmp 15), (.const (.int .i64 4))]))]
def r3 : List G := [(some 17, none, (.mv (.tmp 0))), (some 18, none, (.call false 17 [(.tmp 17)])), (some 19, none, (.call false 16 [(.tmp 18)])), (some 20, none, (.mv (.tmp 0))), (some 21, none, (.call false 35 [(.tmp 20)])), (some 22, none, (.bin .or (.tmp 21) (.const (.int .u64 1)))), (some 23, none, (.call false 31 [(.tmp 22)])), (none, none, (.st true 5 (.tmp 3) (.tmp 19))), (none, none, (.st true 5 (.tmp 4) (.tmp 23)))]
def r4 : List G := [(some 24, none, (.mv (.tmp 0))), (some 25, none, (.call false 49 [(.tmp 24), (.const (.int .i64 8))]))]
def r5 : List G := [(some 27, none, (.ld true 5 (.tmp 3))), (some 28, none, (.call true 16 [(.const (.int .i64 4611686018427387904))])), (some 29, none, (.call true 29 [(.tmp 27), (.tmp 28)])), (some 26, none, (.mv (.tmp 29))), (some 30, none, (.ex (.tmp 26) 0)), (some 31, none, (.ex (.tmp 26) 1))]
def t5 : List G := [(none, none, (.st true 5 (.tmp 3) (.tmp 30)))]
def r6 : List G := [(some 33, none, (.ld true 5 (.tmp 3))), (some 34, none, (.ld true 5 (.tmp 4))), (some 35, none, (.call false 20 [(.tmp 33), (.tmp 34)])), (some 32, none, (.mv (.tmp 35))), (some 36, none, (.ex (.tmp 32) 0)), (some 37, none, (.ex (.tmp 32) 1)), (some 5, none, (.new zR)), (none, none, (.st true 10 (.tmp 5) (.tmp 36))), (some 6, none, (.mv (.tmp 37)))]
def r7 : List G := [(some 38, none, (.mv (.tmp 6))), (some 39, none, (.un .not (.tmp 38)))]
def r8 : List G := [(some 40, none, (.call false 37 [(.const (.int .i64 1))])), (none, none, (.st true 10 (.tmp 2) (.tmp 40)))]
def r9 : List G := [(some 41, none, (.ld true 10 (.tmp 5))), (none, none, (.st true 10 (.tmp 2) (.tmp 41)))]
def c : MC := (.seq (.reg r0 (some [0, 2])) (.seq (.reg r1 (some [0, 2, 3, 4])) (.seq (.seq (.reg r2 (some [0, 2, 3, 4, 16])) (.cond (.tmp 16) (.reg r3 (some [0, 2, 3, 4])) .skip)) (.seq (.seq (.reg r4 (some [2, 3, 4, 25])) (.cond (.tmp 25) (.dreg r5 t5 (some [2, 3, 4])) .skip)) (.seq (.reg r6 (some [2, 5, 6])) (.seq (.seq (.reg r7 (some [2, 5, 39])) (.cond (.tmp 39) (.seq (.reg r8 (some [2])) .ret) .skip)) (.seq (.reg r9 (some [2])) .ret)))))))
def ann : Ann := [(0, (some [0, 2], 0, [], [], [])), (1, (some [0, 2, 3, 4], 0, [], [], [])), (2, (some [0, 2, 3, 4, 16], 0, [], [], [])), (3, (some [0, 2, 3, 4], 0, [], [], [])), (4, (some [2, 3, 4, 25], 0, [], [], [])), (5, (some [2, 3, 4], 6, [5], [(0, 0), (1, 0), (2, 0), (3, 0), (4, 0), (5, 2)], [])), (6, (some [2, 5, 6], 0, [], [], [])), (7, (some [2, 5, 39], 0, [], [], [])), (8, (some [2], 0, [], [], [])), (9, (some [2], 0, [], [], []))]
theorem ok : compF Try.prog Try.f23 ann = some (42, c, [(2, some (true, 10))]) := by kernel_rfl
def p1 (S : St) : Prop := ops C r9 (kq [2] R) S
def p3 (S : St) : Prop := ops C r8 (kq [2] R) S
def p2 (S : St) : Prop := condX (S.ev (.tmp 39)) (p3 C R) (p1 C R) S
def p4 (S : St) : Prop := ops C r7 (kq [2, 5, 39] (p2 C R)) S
def p5 (S : St) : Prop := ops C r6 (kq [2, 5, 6] (p4 C R)) S
def p7 (S : St) : Prop := ops C r5 (ops C t5 (kq [2, 3, 4] (p5 C R))) S
def p6 (S : St) : Prop := condX (S.ev (.tmp 25)) (p7 C R) (p5 C R) S
def p8 (S : St) : Prop := ops C r4 (kq [2, 3, 4, 25] (p6 C R)) S
def p10 (S : St) : Prop := ops C r3 (kq [0, 2, 3, 4] (p8 C R)) S
def p9 (S : St) : Prop := condX (S.ev (.tmp 16)) (p10 C R) (p8 C R) S
def p11 (S : St) : Prop := ops C r2 (kq [0, 2, 3, 4, 16] (p9 C R)) S
def p12 (S : St) : Prop := ops C r1 (kq [0, 2, 3, 4] (p11 C R)) S
def p13 (S : St) : Prop := ops C r0 (kq [0, 2] (p12 C R)) S
theorem s (S : St) : X C c (retK R) S = p13 C R S := by kernel_rfl
theorem E : type_of% @r9.eq_1 ∧ type_of% @p1.eq_1 ∧ type_of% @r8.eq_1 ∧ type_of% @p3.eq_1 ∧ type_of% @p2.eq_1 ∧ type_of% @r7.eq_1 ∧ type_of% @p4.eq_1 ∧ type_of% @r6.eq_1 ∧ type_of% @p5.eq_1 ∧ type_of% @r5.eq_1 ∧ type_of% @t5.eq_1 ∧ type_of% @p7.eq_1 ∧ type_of% @p6.eq_1 ∧ type_of% @r4.eq_1 ∧ type_of% @p8.eq_1 ∧ type_of% @r3.eq_1 ∧ type_of% @p10.eq_1 ∧ type_of% @p9.eq_1 ∧ type_of% @r2.eq_1 ∧ type_of% @p11.eq_1 ∧ type_of% @r1.eq_1 ∧ type_of% @p12.eq_1 ∧ type_of% @r0.eq_1 ∧ type_of% @p13.eq_1 ∧ type_of% @s := ⟨@r9.eq_1, @p1.eq_1, @r8.eq_1, @p3.eq_1, @p2.eq_1, @r7.eq_1, @p4.eq_1, @r6.eq_1, @p5.eq_1, @r5.eq_1, @t5.eq_1, @p7.eq_1, @p6.eq_1, @r4.eq_1, @p8.eq_1, @r3.eq_1, @p10.eq_1, @p9.eq_1, @r2.eq_1, @p11.eq_1, @r1.eq_1, @p12.eq_1, @r0.eq_1, @p13.eq_1, @s⟩
end m_Tape__Ratio
end Go.Proofs.Ytlanoclibdhpmaa

/- Tr: What a call of the tape's Ratio gives. -/
namespace Go.Proofs.Ytlanoclibdhpmaa
open Go Go.RowKit Sx
set_option linter.unusedVariables false
set_option linter.unusedSimpArgs false
theorem mkV_cases {b : Bool} {z y : Int} : (mok b z y = true ∧ mkV b z y = .tuple #[RX (mn z y) (mD z y), .bool true]) ∨ (mok b z y = false ∧ mkV b z y = .tuple #[RX 0 0, .bool false]) := by
  unfold mkV
  cases h : mok b z y
  · exact .inr ⟨rfl, rfl⟩
  · exact .inl ⟨rfl, rfl⟩
theorem or_one {x : Int} (h : U64 x) : U64 (IntKind.u64.wrap (BitVec.ofInt IntKind.u64.bits x ||| BitVec.ofInt IntKind.u64.bits 1).toNat) ∧ IntKind.u64.wrap (BitVec.ofInt IntKind.u64.bits x ||| BitVec.ofInt IntKind.u64.bits 1).toNat ≠ 0 := by
  have hlt := (BitVec.ofInt IntKind.u64.bits x ||| BitVec.ofInt IntKind.u64.bits 1).isLt
  have hne : (BitVec.ofInt IntKind.u64.bits x ||| BitVec.ofInt IntKind.u64.bits 1).toNat ≠ 0 := by
    intro e
    rw [BitVec.toNat_or] at e
    have h2 := Nat.or_eq_zero_iff.1 e
    have : (BitVec.ofInt IntKind.u64.bits 1).toNat = 1 := by decide
    omega
  generalize (BitVec.ofInt IntKind.u64.bits x ||| BitVec.ofInt IntKind.u64.bits 1).toNat = n at *
  have hb : (n : Int) < 18446744073709551616 := by
    have : (2 : Nat) ^ IntKind.u64.bits = 18446744073709551616 := by decide
    rw [this] at hlt; omega
  have e : IntKind.u64.wrap (n : Int) = n := IntWalk.u64_in _ (by omega)
  rw [e]
  exact ⟨⟨by omega, by omega⟩, by omega⟩
/-- The Ratio of a valid fraction. -/
def IsR (v : Value) : Prop := ∃ x : Int × Int, Fq x.1 x.2 ∧ v = RX x.1 x.2
set_option maxRecDepth 100000 in
theorem t_ratio (tb : Nat) : TpC 23 [.pointer (some ⟨tb, 0, none⟩)] tb (fun x : Int × Int => Fq x.1 x.2) (fun x => RX x.1 x.2) := by
  intro B Bm w ht
  refine Calls.mono (enterG Try.func23 m_Tape__Ratio.ok (args := [.pointer (some ⟨tb, 0, none⟩)]) (w0 := cut w tb) (T := kX (cut w tb).heap.size [.g (hK w tb B Bm)]) (R := fun v X => (IsR) v ∧ X = kX (cut w tb).heap.size [.g (hK w tb B Bm)]) (by simp) (below_cut (Nat.le_of_lt ht.lt)) (hK_start ht).1 (kX_stab (Sx.cx _ (cut w tb) _) _) (hK_start ht).2 ?run) ?fin; have hk := tpk_h' ht
  case fin =>
    rintro e w' ⟨v, X, rfl, ⟨⟨x, hx, rfl⟩, rfl⟩, hX, hb, -⟩
    obtain ⟨h1, h2⟩ := hK_end hX (List.mem_singleton.2 rfl) hb
    exact ⟨x, hx, rfl, h1, h2⟩
  case run =>
    try dsimp only
    repeat' (first | simp (disch := omega) only [sxE, m_Tape__Ratio.E, Nat.reduceAdd, Nat.reduceEqDiff, Nat.reduceMul, Nat.reduceSub, Int.reduceAdd, Int.reduceSub, Int.reduceMul, Int.reduceNeg, Int.reduceLT, Int.reduceLE, Int.reduceEq, Int.reduceToNat, ↓reduceIte, Int.reducePow, Nat.reduceLeDiff, Nat.reduceLT, ne_eq, eq_self, List.length_cons, List.length_nil, qxE])
    refine asks_tc rfl (hk) (t_next tb (by decide) (by decide)) en_m_Tape__Next rfl (by first | exact List.mem_singleton.2 rfl | simp) rfl (by first | exact fun j hj => .inl (List.mem_singleton.1 hj) | simp) ?_
    intro r1 ⟨a1, a2⟩
    have i1 : I64 (r1 - 100) := ⟨by omega, by omega⟩
    repeat' (first | simp (disch := omega) only [sxE, m_Tape__Ratio.E, Nat.reduceAdd, Nat.reduceEqDiff, Nat.reduceMul, Nat.reduceSub, Int.reduceAdd, Int.reduceSub, Int.reduceMul, Int.reduceNeg, Int.reduceLT, Int.reduceLE, Int.reduceEq, Int.reduceToNat, ↓reduceIte, Int.reducePow, Nat.reduceLeDiff, Nat.reduceLT, ne_eq, eq_self, List.length_cons, List.length_nil, qxE] | (with_reducible refine Sx.call_at (f := 16) (fun W hW => rx_of i1 W) ?_))
    refine asks_tc rfl (hk) (t_next tb (by decide) (by decide)) en_m_Tape__Next rfl (by first | exact List.mem_singleton.2 rfl | simp) rfl (by first | exact fun j hj => .inl (List.mem_singleton.1 hj) | simp) ?_
    intro r2 ⟨b1, b2⟩
    have i2 : I64 (1 + r2) := ⟨by omega, by omega⟩
    have f1 := (bd_i64 i1).fits
    have f2 := (bd_i64 i2).fits
    repeat' (first | simp (disch := omega) only [sxE, m_Tape__Ratio.E, Nat.reduceAdd, Nat.reduceEqDiff, Nat.reduceMul, Nat.reduceSub, Int.reduceAdd, Int.reduceSub, Int.reduceMul, Int.reduceNeg, Int.reduceLT, Int.reduceLE, Int.reduceEq, Int.reduceToNat, ↓reduceIte, Int.reducePow, Nat.reduceLeDiff, Nat.reduceLT, ne_eq, eq_self, List.length_cons, List.length_nil, qxE] | (with_reducible refine Sx.call_at (f := 16) (fun W hW => rx_of i2 W) ?_))
    have bN := bd_i64 i1
    have bD := bd_i64 i2
    have dne : 1 + r2 ≠ 0 := by omega
    refine asks_tc rfl (hk) (t_bool tb (by decide) (by decide)) en_m_Tape__Bool rfl (by first | exact List.mem_singleton.2 rfl | simp) rfl (by first | exact fun j hj => .inl (List.mem_singleton.1 hj) | simp) ?_
    rintro (_ | _) -
    case' true =>
      repeat' (first | simp (disch := omega) only [sxE, m_Tape__Ratio.E, Nat.reduceAdd, Nat.reduceEqDiff, Nat.reduceMul, Nat.reduceSub, Int.reduceAdd, Int.reduceSub, Int.reduceMul, Int.reduceNeg, Int.reduceLT, Int.reduceLE, Int.reduceEq, Int.reduceToNat, ↓reduceIte, Int.reducePow, Nat.reduceLeDiff, Nat.reduceLT, ne_eq, eq_self, List.length_cons, List.length_nil, qxE])
      refine asks_tc rfl (hk) (t_int tb) en_m_Tape__Int rfl (by first | exact List.mem_singleton.2 rfl | simp) rfl (by first | exact fun j hj => .inl (List.mem_singleton.1 hj) | simp) ?_
      intro z hz
      clear bN bD dne i1 i2 f1 f2 a1 a2 b1 b2
      repeat' (first | simp (disch := omega) only [sxE, m_Tape__Ratio.E, Nat.reduceAdd, Nat.reduceEqDiff, Nat.reduceMul, Nat.reduceSub, Int.reduceAdd, Int.reduceSub, Int.reduceMul, Int.reduceNeg, Int.reduceLT, Int.reduceLE, Int.reduceEq, Int.reduceToNat, ↓reduceIte, Int.reducePow, Nat.reduceLeDiff, Nat.reduceLT, ne_eq, eq_self, List.length_cons, List.length_nil, qxE] | (with_reducible refine Sx.call_at (f := 16) (fun W hW => rx_of hz W) ?_))
      refine asks_tc rfl (hk) (t_word tb) en_m_Tape__Word rfl (by first | exact List.mem_singleton.2 rfl | simp) rfl (by first | exact fun j hj => .inl (List.mem_singleton.1 hj) | simp) ?_
      intro y hy
      obtain ⟨o1, o2⟩ := or_one hy
      have bN := bd_i64 hz
      have bD := bd_u64 o1
      have dne := o2
      have i1 : True := trivial
      have i2 : True := trivial
      have a1 : True := trivial
      have a2 : True := trivial
      have b1 : True := trivial
      have b2 : True := trivial
      have f1 := bN.fits
      have f2 := bD.fits
      repeat' (first | simp (disch := omega) only [sxE, m_Tape__Ratio.E, Nat.reduceAdd, Nat.reduceEqDiff, Nat.reduceMul, Nat.reduceSub, Int.reduceAdd, Int.reduceSub, Int.reduceMul, Int.reduceNeg, Int.reduceLT, Int.reduceLE, Int.reduceEq, Int.reduceToNat, ↓reduceIte, Int.reducePow, Nat.reduceLeDiff, Nat.reduceLT, ne_eq, eq_self, List.length_cons, List.length_nil, qxE])
      generalize IntKind.u64.wrap (BitVec.ofInt IntKind.u64.bits y ||| BitVec.ofInt IntKind.u64.bits 1).toNat = D at *
      repeat' (first | simp (disch := omega) only [sxE, m_Tape__Ratio.E, Nat.reduceAdd, Nat.reduceEqDiff, Nat.reduceMul, Nat.reduceSub, Int.reduceAdd, Int.reduceSub, Int.reduceMul, Int.reduceNeg, Int.reduceLT, Int.reduceLE, Int.reduceEq, Int.reduceToNat, ↓reduceIte, Int.reducePow, Nat.reduceLeDiff, Nat.reduceLT, ne_eq, eq_self, List.length_cons, List.length_nil, qxE] | (with_reducible refine Sx.call_at (f := 31) (fun W hW => rx_ofU o1 W) ?_))
    case' false =>
      repeat' (first | simp (disch := omega) only [sxE, m_Tape__Ratio.E, Nat.reduceAdd, Nat.reduceEqDiff, Nat.reduceMul, Nat.reduceSub, Int.reduceAdd, Int.reduceSub, Int.reduceMul, Int.reduceNeg, Int.reduceLT, Int.reduceLE, Int.reduceEq, Int.reduceToNat, ↓reduceIte, Int.reducePow, Nat.reduceLeDiff, Nat.reduceLT, ne_eq, eq_self, List.length_cons, List.length_nil, qxE])
    all_goals
      clear i1 i2 a1 a2 b1 b2
      refine asks_tc rfl (hk) (t_bool tb (by decide) (by decide)) en_m_Tape__Bool rfl (by first | exact List.mem_singleton.2 rfl | simp) rfl (by first | exact fun j hj => .inl (List.mem_singleton.1 hj) | simp) ?_
      rintro (_ | _) -
      case' true =>
        have i62 : I64 4611686018427387904 := ⟨by decide, by decide⟩
        have f3 := (bd_mul bN (bd_i64 i62)).fits
        have f62 := (bd_i64 i62).fits
        repeat' (first | simp (disch := omega) only [sxE, m_Tape__Ratio.E, Nat.reduceAdd, Nat.reduceEqDiff, Nat.reduceMul, Nat.reduceSub, Int.reduceAdd, Int.reduceSub, Int.reduceMul, Int.reduceNeg, Int.reduceLT, Int.reduceLE, Int.reduceEq, Int.reduceToNat, ↓reduceIte, Int.reducePow, Nat.reduceLeDiff, Nat.reduceLT, ne_eq, eq_self, List.length_cons, List.length_nil, qxE] | (with_reducible refine Sx.call_at (f := 16) (fun W hW => rx_of i62 W) ?_) | (with_reducible refine Sx.call_at (f := 29) (fun W hW => rx_mul f1 f62 f3 W) ?_))
        clear f1 bN i62 f62
        have f1 := f3
        clear f3
        have bN := True.intro
      case' false =>
        repeat' (first | simp (disch := omega) only [sxE, m_Tape__Ratio.E, Nat.reduceAdd, Nat.reduceEqDiff, Nat.reduceMul, Nat.reduceSub, Int.reduceAdd, Int.reduceSub, Int.reduceMul, Int.reduceNeg, Int.reduceLT, Int.reduceLE, Int.reduceEq, Int.reduceToNat, ↓reduceIte, Int.reducePow, Nat.reduceLeDiff, Nat.reduceLT, ne_eq, eq_self, List.length_cons, List.length_nil, qxE])
      all_goals
        clear bN
        have mk1 := fun W => rx_rmake f1.rw f2.rw W
        rcases mkV_cases (b := true && true) with ⟨hm, e⟩ | ⟨hm, e⟩
        · rw [e] at mk1
          have hq := mok_fq hm
          clear e hm
          repeat' (first | simp (disch := omega) only [sxE, m_Tape__Ratio.E, Nat.reduceAdd, Nat.reduceEqDiff, Nat.reduceMul, Nat.reduceSub, Int.reduceAdd, Int.reduceSub, Int.reduceMul, Int.reduceNeg, Int.reduceLT, Int.reduceLE, Int.reduceEq, Int.reduceToNat, ↓reduceIte, Int.reducePow, Nat.reduceLeDiff, Nat.reduceLT, ne_eq, eq_self, List.length_cons, List.length_nil, qxE] | (with_reducible refine Sx.call_at (f := 20) (fun W hW => mk1 W) ?_))
          exact ⟨(_, _), hq, rfl⟩
        · rw [e] at mk1
          clear e hm
          repeat' (first | simp (disch := omega) only [sxE, m_Tape__Ratio.E, Nat.reduceAdd, Nat.reduceEqDiff, Nat.reduceMul, Nat.reduceSub, Int.reduceAdd, Int.reduceSub, Int.reduceMul, Int.reduceNeg, Int.reduceLT, Int.reduceLE, Int.reduceEq, Int.reduceToNat, ↓reduceIte, Int.reducePow, Nat.reduceLeDiff, Nat.reduceLT, ne_eq, eq_self, List.length_cons, List.length_nil, qxE] | (with_reducible refine Sx.call_at (f := 20) (fun W hW => mk1 W) ?_) | (with_reducible refine Sx.call_at (f := 37) (fun W hW => rx_rof i64_one W) ?_))
          exact ⟨(1, 1), fq_int (bd_le bd_one (by decide)), rfl⟩
end Go.Proofs.Ytlanoclibdhpmaa

/- CdL3: MADE BY PROGRAM (sxgen.py): the small code of some functions, points of it and their equations. -/
namespace Go.Proofs.Ytlanoclibdhpmaa
open Go Go.RowKit Sx
set_option linter.unusedVariables false
variable (C : Cx) (R L1 L2 L3 L4 : St → Prop)
namespace w03_known
def r0 : List G := [(some 0, none, (.mv (.const (.bool false))))]
def r1 : List G := [(some 4, none, (.call false 16 [(.const (.int .i64 6))])), (some 5, none, (.call false 16 [(.const (.int .i64 (-4)))])), (some 6, none, (.call false 19 [(.tmp 4), (.tmp 5)])), (some 3, none, (.mv (.tmp 6))), (some 7, none, (.ex (.tmp 3) 0)), (some 8, none, (.ex (.tmp 3) 1)), (some 1, none, (.new zR)), (none, none, (.st true 10 (.tmp 1) (.tmp 7))), (some 2, none, (.mv (.tmp 8)))]
def r2 : List G := [(some 9, none, (.mv (.tmp 2))), (some 10, none, (.mv (.tmp 9))), (some 11, some (10, true), (.fa 0 (.tmp 1))), (some 12, some (10, true), (.ld true 5 (.tmp 11))), (some 13, some (10, true), (.call true 16 [(.const (.int .i64 (-3)))])), (some 14, some (10, true), (.eqg false 25 (.tmp 12) (.tmp 13))), (some 15, none, (.pick (.tmp 10) (.tmp 14) (.const (.bool false)))), (some 16, none, (.mv (.tmp 15))), (some 17, some (16, true), (.fa 5 (.tmp 1))), (some 18, some (16, true), (.ld true 5 (.tmp 17))), (some 19, some (16, true), (.call true 16 [(.const (.int .i64 2))])), (some 20, some (16, true), (.eqg false 25 (.tmp 18) (.tmp 19))), (some 21, none, (.pick (.tmp 16) (.tmp 20) (.const (.bool false)))), (some 22, none, (.mv (.tmp 21))), (some 23, some (22, true), (.ld true 10 (.tmp 1))), (some 24, some (22, true), (.call true 24 [(.tmp 23)])), (some 25, some (22, true), (.call true 16 [(.const (.int .i64 (-2)))])), (some 26, some (22, true), (.eqg false 25 (.tmp 24) (.tmp 25))), (some 27, none, (.pick (.tmp 22) (.tmp 26) (.const (.bool false)))), (some 28, none, (.mv (.tmp 27))), (some 29, some (28, true), (.ld true 10 (.tmp 1))), (some 30, some (28, true), (.call true 27 [(.tmp 29), (.const (.int .u64 1))])), (some 31, some (28, true), (.call true 16 [(.const (.int .i64 (-1)))])), (some 32, some (28, true), (.eqg false 25 (.tmp 30) (.tmp 31))), (some 33, none, (.pick (.tmp 28) (.tmp 32) (.const (.bool false))))]
def t2 : List G := [(some 0, none, (.mv (.tmp 33)))]
def c : MC := (.seq (.reg r0 (some [])) (.seq (.reg r1 (some [1, 2])) (.seq (.dreg r2 t2 (some [0])) .ret)))
def ann : Ann := [(0, (some [], 0, [], [], [])), (1, (some [1, 2], 0, [], [], [])), (2, (some [0], 25, [], [(0, 0), (1, 0), (2, 0), (3, 0), (4, 0), (5, 0), (6, 0), (7, 0), (8, 0), (9, 0), (10, 0), (11, 0), (12, 0), (13, 0), (14, 0), (15, 0), (16, 0), (17, 0), (18, 0), (19, 0), (20, 0), (21, 0), (22, 0), (23, 0), (24, 0)], []))]
theorem ok : compF Try.prog Try.f22 ann = some (34, c, [(0, none)]) := by kernel_rfl
def p1 (S : St) : Prop := ops C r2 (ops C t2 (kq [0] R)) S
def p2 (S : St) : Prop := ops C r1 (kq [1, 2] (p1 C R)) S
def p3 (S : St) : Prop := ops C r0 (kq [] (p2 C R)) S
theorem s (S : St) : X C c (retK R) S = p3 C R S := by kernel_rfl
theorem E : type_of% @r2.eq_1 ∧ type_of% @t2.eq_1 ∧ type_of% @p1.eq_1 ∧ type_of% @r1.eq_1 ∧ type_of% @p2.eq_1 ∧ type_of% @r0.eq_1 ∧ type_of% @p3.eq_1 ∧ type_of% @s := ⟨@r2.eq_1, @t2.eq_1, @p1.eq_1, @r1.eq_1, @p2.eq_1, @r0.eq_1, @p3.eq_1, @s⟩
end w03_known
namespace w03_alike
def r0 : List G := [(some 3, none, (.box true 10 (.tmp 0))), (some 4, none, (.box true 10 (.tmp 1))), (some 6, none, (.mv (.const (.bool false))))]
def r1 : List G := [(some 7, none, (.ld true 10 (.tmp 3))), (some 8, none, (.call true 21 [(.tmp 7)])), (some 9, none, (.ld true 10 (.tmp 3))), (some 10, none, (.call true 42 [(.tmp 9)])), (some 11, none, (.bq false (.tmp 8) (.tmp 10))), (some 12, none, (.mv (.tmp 11))), (some 13, some (12, true), (.ld true 10 (.tmp 3))), (some 14, some (12, true), (.ld true 10 (.tmp 4))), (some 15, some (12, true), (.call true 30 [(.tmp 13), (.tmp 14)])), (some 16, some (12, true), (.ld true 10 (.tmp 3))), (some 17, some (12, true), (.ld true 10 (.tmp 4))), (some 18, some (12, true), (.call true 28 [(.tmp 16), (.tmp 17)])), (some 19, some (12, true), (.bin .eql (.tmp 15) (.tmp 18))), (some 20, none, (.pick (.tmp 12) (.tmp 19) (.const (.bool false)))), (some 21, none, (.mv (.tmp 20))), (some 22, some (21, true), (.ld true 10 (.tmp 3))), (some 23, some (21, true), (.call true 24 [(.tmp 22)])), (some 24, some (21, true), (.ld true 10 (.tmp 3))), (some 25, some (21, true), (.call true 74 [(.tmp 24)])), (some 26, some (21, true), (.eqg false 25 (.tmp 23) (.tmp 25))), (some 27, none, (.pick (.tmp 21) (.tmp 26) (.const (.bool false)))), (some 28, none, (.mv (.tmp 27))), (some 29, some (28, true), (.ld true 10 (.tmp 3))), (some 30, some (28, true), (.call true 25 [(.tmp 29)])), (some 31, some (28, true), (.ld true 10 (.tmp 3))), (some 32, some (28, true), (.call true 75 [(.tmp 31)])), (some 33, some (28, true), (.eqg false 25 (.tmp 30) (.tmp 32))), (some 34, none, (.pick (.tmp 28) (.tmp 33) (.const (.bool false)))), (some 35, none, (.mv (.tmp 34))), (some 36, some (35, true), (.ld true 10 (.tmp 3))), (some 37, some (35, true), (.mv (.tmp 2))), (some 38, some (35, true), (.call true 27 [(.tmp 36), (.tmp 37)])), (some 39, some (35, true), (.ld true 10 (.tmp 3))), (some 40, some (35, true), (.mv (.tmp 2))), (some 41, some (35, true), (.call true 76 [(.tmp 39), (.tmp 40)])), (some 42, some (35, true), (.eqg false 25 (.tmp 38) (.tmp 41))), (some 43, none, (.pick (.tmp 35) (.tmp 42) (.const (.bool false))))]
def t1 : List G := [(some 6, none, (.mv (.tmp 43)))]
def c : MC := (.seq (.reg r0 (some [2, 3, 4])) (.seq (.dreg r1 t1 (some [6])) .ret))
def ann : Ann := [(0, (some [2, 3, 4], 0, [], [], [])), (1, (some [6], 37, [], [(0, 0), (1, 0), (2, 0), (3, 0), (4, 0), (5, 0), (6, 0), (7, 0), (8, 0), (9, 0), (10, 0), (11, 0), (12, 0), (13, 0), (14, 0), (15, 0), (16, 0), (17, 0), (18, 0), (19, 0), (20, 0), (21, 0), (22, 0), (23, 0), (24, 0), (25, 0), (26, 0), (27, 0), (28, 0), (29, 0), (30, 0), (31, 0), (32, 0), (33, 0), (34, 0), (35, 0), (36, 0)], []))]
theorem ok : compF Try.prog Try.f34 ann = some (44, c, [(6, none)]) := by kernel_rfl
def p1 (S : St) : Prop := ops C r1 (ops C t1 (kq [6] R)) S
def p2 (S : St) : Prop := ops C r0 (kq [2, 3, 4] (p1 C R)) S
theorem s (S : St) : X C c (retK R) S = p2 C R S := by kernel_rfl
theorem E : type_of% @r1.eq_1 ∧ type_of% @t1.eq_1 ∧ type_of% @p1.eq_1 ∧ type_of% @r0.eq_1 ∧ type_of% @p2.eq_1 ∧ type_of% @s := ⟨@r1.eq_1, @t1.eq_1, @p1.eq_1, @r0.eq_1, @p2.eq_1, @s⟩
end w03_alike
end Go.Proofs.Ytlanoclibdhpmaa

/- L3: Helpers of the statements about ratio: known, alike; raw arguments. -/
namespace Go.Proofs.Ytlanoclibdhpmaa
open Go Go.RowKit Sx
set_option linter.unusedVariables false
set_option linter.unusedSimpArgs false
/-- The given code of an equality of Wides or of Ratios; for the run. -/
theorem gx_make {z y : Int} (h : Fits z) (h' : Fits y) (W : World) : Gives Try.prog 19 [WX z, WX y] W (· = mkV true z y) := gx_rmake h.rw h'.rw W
theorem rx_make {z y : Int} (h : Fits z) (h' : Fits y) (W : World) : Gives Try.prog 20 [WX z, WX y] W (· = mkV true z y) := rx_rmake h.rw h'.rw W
theorem mkV_yes {z y : Int} (h : mok true z y = true) : mkV true z y = .tuple #[RX (mn z y) (mD z y), .bool true] := by unfold mkV; rw [if_pos h]
theorem fits_i64 {x : Int} (h : I64 x) : Fits x := (bd_i64 h).fits
theorem i64n (n : Int) (h : -1000000 ≤ n ∧ n ≤ 1000000) : I64 n := ⟨by omega, by omega⟩
set_option maxRecDepth 100000 in
theorem g_known03 (W : World) : Gives Try.prog 22 [] W (· = .bool true) := by
  have mk1 := fun W => gx_make (fits_i64 (i64n 6 (by decide))) (fits_i64 (i64n (-4) (by decide))) W
  rw [mkV_yes (by decide +kernel), show mn 6 (-4) = -3 by decide +kernel, show mD 6 (-4) = 2 by decide +kernel] at mk1
  have f : Fq (-3) 2 := rok_iff.1 (show rok true (-3) 2 = true by decide +kernel) |>.2
  have e1 : (-3 : Int) / 2 = -2 := by decide
  have e2 : atq (-3) 2 1 = -1 := by decide
  have q1 := fun W => gx_rfloor f.cq W
  have q2 := fun W => gx_rat f.cq (n := 1) ⟨by decide, by decide⟩ W
  rw [e1] at q1
  rw [e2] at q2
  have o6 := fun W => rx_of (i64n 6 (by decide)) W
  have o4 := fun W => rx_of (i64n (-4) (by decide)) W
  have o3 := fun W => rx_of (i64n (-3) (by decide)) W
  have o2 := fun W => rx_of (i64n 2 (by decide)) W
  have om := fun W => rx_of (i64n (-2) (by decide)) W
  have o1 := fun W => rx_of (i64n (-1) (by decide)) W
  refine gives_known en_w03_known ?_
  refine known_of (enter Try.func22 w03_known.ok (args := []) (by simp) ?_)
  repeat' (first | simp (disch := omega) only [sxE, w03_known.E, Nat.reduceAdd, Nat.reduceEqDiff, Nat.reduceMul, Nat.reduceSub, Int.reduceAdd, Int.reduceSub, Int.reduceMul, Int.reduceNeg, Int.reduceLT, Int.reduceLE, Int.reduceEq, Int.reduceToNat, ↓reduceIte, Int.reducePow, Nat.reduceLeDiff, Nat.reduceLT, ne_eq, eq_self, List.length_cons, List.length_nil, qxE] | (with_reducible refine Sx.call_at (f := 16) (fun W hW => o6 W) ?_) | (with_reducible refine Sx.call_at (f := 16) (fun W hW => o4 W) ?_) | (with_reducible refine Sx.call_at (f := 16) (fun W hW => o3 W) ?_) | (with_reducible refine Sx.call_at (f := 16) (fun W hW => o2 W) ?_) | (with_reducible refine Sx.call_at (f := 16) (fun W hW => om W) ?_) | (with_reducible refine Sx.call_at (f := 16) (fun W hW => o1 W) ?_) | (with_reducible refine Sx.call_at (f := 19) (fun W hW => mk1 W) ?_) | (with_reducible refine Sx.call_at (f := 24) (fun W hW => q1 W) ?_) | (with_reducible refine Sx.call_at (f := 27) (fun W hW => q2 W) ?_) | ((with_reducible apply Sx.eq_is); (case h => exact fun W => eqx_run (fits_i64 (i64n _ (by decide))) (fits_i64 (i64n _ (by decide))) W); (case' hk => skip)))
theorem cq_valid {v : Value} {p q : Int} (h : CQ v p q) : ∃ t, (∀ W, Gives Try.prog 21 [v] W (· = .bool t)) ∧ ∀ W, Gives Try.prog 42 [v] W (· = .bool t) := by
  rcases h with ⟨x, y, h1, h2, rfl, -, -⟩ | ⟨h, -, -⟩
  · exact ⟨_, fun W => gx_rvalid h1 h2 W, fun W => rx_rvalid h1 h2 W⟩
  · exact ⟨_, fun W => gx_rvalid0 h W, fun W => rx_rvalid0 h W⟩
theorem bb_self (b : Bool) : (b == b) = true := by cases b <;> rfl
theorem fits_at {p q n : Int} (h : Fq p q) (hn : U64 n) : Fits (atq p q n) := by
  have b1 := bd_mul h.bp (bd_u64 hn)
  have b3 : Bd 194 (2 * (p * n) + q) := bd_add (bd_mul bd_two b1) h.bq (by decide) (by decide)
  have := h.pos
  exact fits_ediv b3.fits (by omega)
set_option maxRecDepth 100000 in
theorem g_alike03 {v v' : Value} {p q p' q' n : Int} (h : CQ v p q) (h' : CQ v' p' q') (hn : U64 n) (W : World) : Gives Try.prog 34 [v, v', .int .u64 n] W (· = .bool true) := by
  obtain ⟨c0, c1, c2, c3, c4, c5, c6, c7, c8, c9, rfl⟩ := h.ten
  obtain ⟨d0, d1, d2, d3, d4, d5, d6, d7, d8, d9, rfl⟩ := h'.ten
  have f := h.fq
  obtain ⟨t, v1, v2⟩ := cq_valid h
  have bt := bb_self t
  have f1 := fits_ediv f.fp f.ne
  have f2 := fits_neg (fits_ediv f.neg.fp f.ne)
  have f3 := fits_at f hn
  refine gives_known en_w03_alike ?_
  refine known_of (enter Try.func34 w03_alike.ok (args := [_, _, _]) (by simp) ?_)
  repeat' (first | simp (disch := omega) only [sxE, w03_alike.E, Nat.reduceAdd, Nat.reduceEqDiff, Nat.reduceMul, Nat.reduceSub, Int.reduceAdd, Int.reduceSub, Int.reduceMul, Int.reduceNeg, Int.reduceLT, Int.reduceLE, Int.reduceEq, Int.reduceToNat, ↓reduceIte, Int.reducePow, Nat.reduceLeDiff, Nat.reduceLT, ne_eq, eq_self, List.length_cons, List.length_nil, qxE, bt, beq_self_eq_true] | (with_reducible refine Sx.call_at (f := 21) (fun W hW => v1 W) ?_) | (with_reducible refine Sx.call_at (f := 42) (fun W hW => v2 W) ?_) | (with_reducible refine Sx.call_at (f := 30) (fun W hW => gx_rcompare h h' W) ?_) | (with_reducible refine Sx.call_at (f := 28) (fun W hW => rx_rcompare h h' W) ?_) | (with_reducible refine Sx.call_at (f := 24) (fun W hW => gx_rfloor h W) ?_) | (with_reducible refine Sx.call_at (f := 74) (fun W hW => rx_rfloor h W) ?_) | (with_reducible refine Sx.call_at (f := 25) (fun W hW => gx_rceil h W) ?_) | (with_reducible refine Sx.call_at (f := 75) (fun W hW => rx_rceil h W) ?_) | (with_reducible refine Sx.call_at (f := 27) (fun W hW => gx_rat h hn W) ?_) | (with_reducible refine Sx.call_at (f := 76) (fun W hW => rx_rat h hn W) ?_) | ((with_reducible apply Sx.eq_is); (case h => first | exact fun W => eqx_run f1 f1 W | exact fun W => eqx_run f2 f2 W | exact fun W => eqx_run f3 f3 W); (case' hk => skip)))
theorem rw_cq {c0 c1 c2 c3 c4 d0 d1 d2 d3 d4 : Value} {t t' : Bool} {z y : Int} (h : RW (.agg #[c0, c1, c2, c3, c4]) t z) (h' : RW (.agg #[d0, d1, d2, d3, d4]) t' y) : ∃ p q, CQ (.agg #[c0, c1, c2, c3, c4, d0, d1, d2, d3, d4]) p q := by
  rcases h with ⟨-, e, h⟩ | ⟨-, e, -⟩ <;> rcases h' with ⟨-, e', h'⟩ | ⟨-, e', -⟩
  · cases e; cases e'
    exact ⟨_, _, .inl ⟨z, y, h, h', rfl, rfl, rfl⟩⟩
  · cases e; cases e'
    exact ⟨0, 1, .inr ⟨.inr (.inl ⟨z, h, rfl⟩), rfl, rfl⟩⟩
  · cases e; cases e'
    exact ⟨0, 1, .inr ⟨.inl ⟨y, h', rfl⟩, rfl, rfl⟩⟩
  · cases e; cases e'
    exact ⟨0, 1, .inr ⟨.inr (.inr rfl), rfl, rfl⟩⟩
theorem RW.ones {c0 c1 c2 c3 c4 : Value} {t : Bool} {z : Int} (h : RW (.agg #[c0, c1, c2, c3, c4]) t z) : one c0 = true ∧ one c1 = true ∧ one c2 = true ∧ one c3 = true ∧ one c4 = true := by
  rcases h with ⟨-, e, -⟩ | ⟨-, e, -⟩ <;> (cases e; exact ⟨rfl, rfl, rfl, rfl, rfl⟩)
theorem cq_raw (n n' : Bool) {a b c d a' b' c' d' : Int} (ha : U64 a) (hb : U64 b) (hc : U64 c) (hd : U64 d) (ha' : U64 a') (hb' : U64 b') (hc' : U64 c') (hd' : U64 d') :
    ∃ p q, CQ (.agg #[.bool n, .int .u64 a, .int .u64 b, .int .u64 c, .int .u64 d, .bool n', .int .u64 a', .int .u64 b', .int .u64 c', .int .u64 d']) p q := by
  obtain ⟨t, z, h⟩ := rw_raw n ha hb hc hd
  obtain ⟨t', y, h'⟩ := rw_raw n' ha' hb' hc' hd'
  exact rw_cq h h'
end Go.Proofs.Ytlanoclibdhpmaa

/- Open: Opening arguments that are structs: samples and Wides. -/
namespace Go.Proofs.Ytlanoclibdhpmaa
open Go.ChangeShapes Go.WideShapes Go.ChangeAt Go.RowKit
set_option linter.unusedVariables false
set_option linter.unusedSimpArgs false
section
variable {H : Type} {enc : TypeId × Value → H} {P : Program}
theorem list5 {l : List Value} (h : l.length = 5) : ∃ x y z u v, l = [x, y, z, u, v] := by
  match l, h with
  | [x, y, z, u, v], _ => exact ⟨x, y, z, u, v, rfl⟩
theorem open_wid {t e : TypeId} {f0 f1 : Field} {v : Value} {d : DataW H} {ps : List MemPlace} {W : World} {base : Nat} (ht : P.underlying t = some (.struct #[f0, f1])) (k0 : P.underlying f0.type = some .bool) (k1 : P.underlying f1.type = some (.array 4 e)) (ke : P.underlying e = some (.int .u64)) (o0 : f0.offset = 0) (o1 : f1.offset = 1)
    (c0 : P.cellsOf f0.type = 1) (c1 : P.cellsOf f1.type = 4) (ce : P.cellsOf e = 1) (ct : P.cellsOf t = 5) (hv : Value.okWide P W .any base t v) (h : DataW.Trod enc P W 0 (fun _ => true) true t v d ps) : ∃ n a b c d', v = WV n a b c d' ∧ U64 a ∧ U64 b ∧ U64 c ∧ U64 d' := by
  obtain ⟨cs, rfl, hsz⟩ := okWide_struct ht hv
  obtain ⟨fuel, hf⟩ := h
  obtain ⟨y0, y1, n, _, hlen, e0, e1⟩ := trod_struct2 ht hf
  have hl : cs.toList.length = 5 := by rw [Array.length_toList, hsz, ct]
  obtain ⟨x, y, z, u, v, hxy⟩ := list5 hl
  have hcs : cs = #[x, y, z, u, v] := by rw [← Array.toArray_toList (xs := cs), hxy]
  subst hcs
  rw [o0, c0] at e0
  rw [o1, c1] at e1
  obtain ⟨nb, en, -⟩ := DataW.trod_bool k0 e0
  have e1' : DataW.trod enc P W 0 (fun _ => true) true n f1.type [y, z, u, v] = some y1 := by simpa [Value.cells] using e1
  obtain ⟨z0, z1, z2, z3, m, _, g0, g1, g2, g3⟩ := trod_array4 k1 ce e1'
  obtain ⟨a0, r0, -, w0⟩ := DataW.trod_int ke g0
  obtain ⟨a1, r1, -, w1⟩ := DataW.trod_int ke g1
  obtain ⟨a2, r2, -, w2⟩ := DataW.trod_int ke g2
  obtain ⟨a3, r3, -, w3⟩ := DataW.trod_int ke g3
  simp [Value.cells] at en r0 r1 r2 r3
  subst en; subst r0; subst r1; subst r2; subst r3
  exact ⟨nb, a0, a1, a2, a3, rfl, U64.of_wf w0, U64.of_wf w1, U64.of_wf w2, U64.of_wf w3⟩
theorem list10 {l : List Value} (h : l.length = 10) : ∃ a b c d e x y z u v, l = [a, b, c, d, e, x, y, z, u, v] := by
  match l, h with
  | [a, b, c, d, e, x, y, z, u, v], _ => exact ⟨a, b, c, d, e, x, y, z, u, v, rfl⟩
theorem cells_wid {t e : TypeId} {f0 f1 : Field} {n : Nat} {y : DataW H} {l : List Value} {W : World} (ht : P.underlying t = some (.struct #[f0, f1])) (k0 : P.underlying f0.type = some .bool) (k1 : P.underlying f1.type = some (.array 4 e)) (ke : P.underlying e = some (.int .u64)) (o0 : f0.offset = 0) (o1 : f1.offset = 1)
    (c0 : P.cellsOf f0.type = 1) (c1 : P.cellsOf f1.type = 4) (ce : P.cellsOf e = 1) (hl : l.length = 5) {ps : List MemPlace} (hf : DataW.trod enc P W 0 (fun _ => true) true n t l = some (y, ps)) : ∃ nb a b c d', l = [.bool nb, .int .u64 a, .int .u64 b, .int .u64 c, .int .u64 d'] ∧ U64 a ∧ U64 b ∧ U64 c ∧ U64 d' := by
  obtain ⟨y0, y1, m0, _, hlen, e0, e1⟩ := trod_struct2 ht hf
  obtain ⟨x, y', z, u, v, rfl⟩ := list5 hl
  rw [o0, c0] at e0
  rw [o1, c1] at e1
  obtain ⟨nb, en, -⟩ := DataW.trod_bool k0 e0
  have e1' : DataW.trod enc P W 0 (fun _ => true) true m0 f1.type [y', z, u, v] = some y1 := by simpa [Value.cells] using e1
  obtain ⟨z0, z1, z2, z3, m, _, g0, g1, g2, g3⟩ := trod_array4 k1 ce e1'
  obtain ⟨a0, r0, -, w0⟩ := DataW.trod_int ke g0
  obtain ⟨a1, r1, -, w1⟩ := DataW.trod_int ke g1
  obtain ⟨a2, r2, -, w2⟩ := DataW.trod_int ke g2
  obtain ⟨a3, r3, -, w3⟩ := DataW.trod_int ke g3
  simp [Value.cells] at en r0 r1 r2 r3
  subst en; subst r0; subst r1; subst r2; subst r3
  exact ⟨nb, a0, a1, a2, a3, rfl, U64.of_wf w0, U64.of_wf w1, U64.of_wf w2, U64.of_wf w3⟩
end
set_option maxRecDepth 100000 in
theorem open_wide {H : Type} {enc : TypeId × Value → H} {v : Value} {d : DataW H} {ps : List MemPlace} {W : World} {base : Nat} (hv : Value.okWide Try.prog W .any base 25 v) (h : DataW.Trod enc Try.prog W 0 (fun _ => true) true 25 v d ps) : ∃ n a b c d', v = WV n a b c d' ∧ U64 a ∧ U64 b ∧ U64 c ∧ U64 d' :=
  open_wid Try.underlying25 Try.underlying4 Try.underlying23 Try.underlying22 rfl rfl (by kernel_rfl) (by kernel_rfl) (by kernel_rfl) (by kernel_rfl) hv h
set_option maxRecDepth 100000 in
theorem open_ratio {H : Type} {enc : TypeId × Value → H} {v : Value} {d : DataW H} {ps : List MemPlace} {W : World} {base : Nat} (hv : Value.okWide Try.prog W .any base 35 v) (h : DataW.Trod enc Try.prog W 0 (fun _ => true) true 35 v d ps) : ∃ n a b c d' n1 a1 b1 c1 d1, v = .agg #[.bool n, .int .u64 a, .int .u64 b, .int .u64 c, .int .u64 d', .bool n1, .int .u64 a1, .int .u64 b1, .int .u64 c1, .int .u64 d1] ∧ (U64 a ∧ U64 b ∧ U64 c ∧ U64 d') ∧ (U64 a1 ∧ U64 b1 ∧ U64 c1 ∧ U64 d1) := by
  obtain ⟨cs, rfl, hsz⟩ := okWide_struct Try.underlying35 hv
  obtain ⟨fuel, hf⟩ := h
  obtain ⟨y0, y1, n, _, hlen, e0, e1⟩ := trod_struct2 Try.underlying35 hf
  have ct : Try.prog.cellsOf 35 = 10 := by kernel_rfl
  have cw : Try.prog.cellsOf 25 = 5 := by kernel_rfl
  have hl : cs.toList.length = 10 := by rw [Array.length_toList, hsz, ct]
  obtain ⟨a0, a1, a2, a3, a4, a5, a6, a7, a8, a9, hxy⟩ := list10 hl
  have hcs : cs = #[a0, a1, a2, a3, a4, a5, a6, a7, a8, a9] := by rw [← Array.toArray_toList (xs := cs), hxy]
  subst hcs
  simp only [cw] at e0 e1
  have e0' : DataW.trod enc Try.prog W 0 (fun _ => true) true n 25 [a0, a1, a2, a3, a4] = some y0 := by simpa [Value.cells] using e0
  have e1' : DataW.trod enc Try.prog W 0 (fun _ => true) true n 25 [a5, a6, a7, a8, a9] = some y1 := by simpa [Value.cells] using e1
  obtain ⟨n1, w0, w1, w2, w3, g1, u1, u2, u3, u4⟩ := cells_wid Try.underlying25 Try.underlying4 Try.underlying23 Try.underlying22 rfl rfl (by kernel_rfl) (by kernel_rfl) (by kernel_rfl) rfl e0'
  obtain ⟨n2, x0, x1, x2, x3, g2, v1, v2, v3, v4⟩ := cells_wid Try.underlying25 Try.underlying4 Try.underlying23 Try.underlying22 rfl rfl (by kernel_rfl) (by kernel_rfl) (by kernel_rfl) rfl e1'
  cases g1
  cases g2
  exact ⟨_, _, _, _, _, _, _, _, _, _, rfl, ⟨u1, u2, u3, u4⟩, ⟨v1, v2, v3, v4⟩⟩
end Go.Proofs.Ytlanoclibdhpmaa

/- Ck: A symbolic run: blocks of the call's own that are known cell by cell. -/
namespace Go.Proofs.Ytlanoclibdhpmaa
open Go Go.RowKit Sx
set_option linter.unusedVariables false
set_option linter.unusedSimpArgs false
namespace Sx
variable {C : Cx} {S : St} {K : St → Prop} {d : Option Nat}
/-- Block b holds these cells. -/
def cK (b : Nat) (cs : List Value) : KnG where
  bs := [b]
  ok n W := n ≤ b ∧ HB W b cs.toArray
  lt := fun {n W} h c hc => by
    rw [List.mem_singleton.1 hc]
    exact ⟨h.1, h.2.lt⟩
  keep := fun {n W W'} h hs hb ho => by
    obtain ⟨T, hT⟩ := h.2
    exact ⟨h.1, T, (hb b (List.mem_singleton.2 rfl)).trans hT⟩
theorem cK_cell {b : Nat} {cs : List Value} {n : Nat} {W : World} (h : (cK b cs).ok n W) {i : Nat} {v : Value} (hv : cs[i]? = some v) : W.cell? ⟨b, i, none⟩ = some v := by
  have hc := (Bx.of h.2).2.1 i
  rw [hc]
  simpa using hv
/-- An operation that makes a block. -/
theorem genA_c {q : GK} {l : List Value} {L : List Kn} {cs : List Value} {T : TypeId} (v : Nat → Value) (hT : S.T = kX C.w0.heap.size L)
    (h : ∀ W, (genRun q l).run C.P W = .ok (.value (v W.heap.size)) (W.alloc (.cells cs.toArray T (0, 0))))
    (hk : ∀ b, b ∉ S.T.bs → K (St.put ⟨S.n, S.E, S.H, kX C.w0.heap.size (.g (cK b cs) :: L)⟩ d (.v (v b)))) : genA C q l d K S := by
  refine genA_T (ι := {x : Nat // x ∉ S.T.bs}) (fun x => v x.1) (fun x => kX C.w0.heap.size (.g (cK x.1 cs) :: L)) (fun W hW hok hbs => ⟨?_⟩) (fun x => hk _ x.2)
  rw [hT] at hok
  rw [h W]
  have hb : Below W.heap.size W (W.alloc (.cells cs.toArray T (0, 0))) := (Below.refl _ _).alloc (Nat.le_refl _) _
  have hc : (cK W.heap.size cs).ok C.w0.heap.size (W.alloc (.cells cs.toArray T (0, 0))) := ⟨hW.size, HB.new W _ T rfl⟩
  refine ⟨⟨W.heap.size, fun hT2 => by have := (hbs _ hT2).2; omega⟩, rfl, ⟨hb.os, hb.tape, hb.output, hb.size, fun i hi _ => hb.block i hi⟩, ?_, kX_stab C _, ?_⟩
  · intro k hk
    rcases List.mem_cons.1 hk with rfl | hk
    · exact hc
    · exact (hok k hk).below hb
  · intro b hbb
    obtain ⟨k, hk, hbb⟩ := kX_bs.1 hbb
    rcases List.mem_cons.1 hk with rfl | hk
    · have : b = W.heap.size := List.mem_singleton.1 hbb
      subst this
      exact ⟨.inr (Nat.le_refl _), hc.2.lt⟩
    · exact ⟨.inl (by rw [hT]; exact kX_bs.2 ⟨k, hk, hbb⟩), Nat.lt_of_lt_of_le ((hok k hk).lt b hbb).2 hb.size⟩
/-- Cells of such a block are read. -/
theorem ldP_c {L : List Kn} {b o m : Nat} {g : Bool} {cs l : List Value} (hT : (C.kn S).T = kX C.w0.heap.size L) (hm : .g (cK b cs) ∈ L) (hl : l.length = m) (hs : ∀ j v, l[j]? = some v → cs[o + j]? = some v) (hk : K (S.put d (.v (mk g l)))) : ldP C g m ⟨b, o, none⟩ d K S :=
  ldP_ext l hl (fun W hW hok j v hj => by
    rw [hT] at hok
    have ho : (cK b cs).ok C.w0.heap.size W := hok _ hm
    rw [Addr.add_lit]
    exact cK_cell ho (hs j v hj)) hk
end Sx
end Go.Proofs.Ytlanoclibdhpmaa
