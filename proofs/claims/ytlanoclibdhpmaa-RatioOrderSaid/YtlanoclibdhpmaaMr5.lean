/- Several texts in one: He, QPlain, Made, Law, MadeW, LawT, SxV, Hf, Hg, CdR, Qa, Ql, Qb, CdX. -/
import Derived.Test.YtlanoclibdhpmaaRows
import Derived.WalkKit
import Derived.ProofKit
import Derived.WalkLawsBesides
import Derived.WalkSpells
import Derived.Outline
import Derived.RegionTactic
import Derived.ChangeAlike
import Derived.Deep.QuietTactic
import Derived.BigQuiet
import Derived.Deep.RegionWith
import Derived.OpenShut
import Derived.SizedLaws
import Derived.Test.YtlanoclibdhpmaaProg
import Derived.Test.YtlanoclibdhpmaaMr1
import Derived.Test.YtlanoclibdhpmaaMr2
import Derived.Test.YtlanoclibdhpmaaMr4

/- He: What calls of the reference of wide give. -/
namespace Go.Proofs.Ytlanoclibdhpmaa
open Go Go.RowKit Sx
set_option linter.unusedVariables false
set_option linter.unusedSimpArgs false
theorem rg_valid (n : Bool) {a b c d : Int} (ha : U64 a) (hb : U64 b) (hc : U64 c) (hd : U64 d) (W : World) : Gives Try.prog 57 [WV n a b c d] W (· = .bool (!n || !mz a b c d)) := gives_known en_r02_Valid (rvalid_any n a b c d ha hb hc hd W)
theorem rg_clean (n : Bool) {a b c d : Int} (ha : U64 a) (hb : U64 b) (hc : U64 c) (hd : U64 d) (W : World) : Gives Try.prog 66 [WV n a b c d] W (· = WV (cn n a b c d) a b c d) := gives_known en_r02_clean (rclean_any n a b c d ha hb hc hd W)
theorem rg_sign {v : Value} {z : Int} (h : IsW v z) (W : World) : Gives Try.prog 47 [v] W (· = .int .i64 (cm z 0)) := by
  obtain ⟨n, a, b, c, d, rfl, rfl, ha, hb, hc, hd⟩ := h
  exact gives_known en_r02_Sign (rsign_any n a b c d ha hb hc hd W)
theorem rg_neg {v : Value} {z : Int} (h : IsW v z) (W : World) : Gives Try.prog 48 [v] W (· = WE (-z)) := gives_known en_r02_Neg (rneg_w h W)
theorem rg_add {v v' : Value} {z z' : Int} (h : IsW v z) (h' : IsW v' z') (W : World) : Gives Try.prog 32 [v, v'] W (· = .tuple #[WE (cl (z + z')), .bool (fb (z + z'))]) := gives_known en_r02_Add (radd_w h h' W)
theorem rg_mul {v v' : Value} {z z' : Int} (h : IsW v z) (h' : IsW v' z') (W : World) : Gives Try.prog 29 [v, v'] W (· = .tuple #[WE (cl (z * z')), .bool (fb (z * z'))]) := gives_known en_r02_Mul (rmul_w h h' W)
theorem rg_sub {v v' : Value} {z z' : Int} (h : IsW v z) (h' : IsW v' z') (W : World) : Gives Try.prog 26 [v, v'] W (· = .tuple #[WE (cl (z - z')), .bool (fb (z - z'))]) := gives_known en_r02_Sub (rsub_w h h' W)
theorem rg_Of {v : Int} (h : I64 v) (W : World) : Gives Try.prog 16 [.int .i64 v] W (· = WE v) := gives_known en_r02_Of (rOf_any v h W)
theorem rg_OfU {v : Int} (h : U64 v) (W : World) : Gives Try.prog 31 [.int .u64 v] W (· = WE v) := by
  refine gives_known en_r02_OfUnsigned ?_
  rw [we_uns v h]
  refine Sx.known_of (r02_OfUnsigned_start (args := [.int .u64 v]) (by simp) ?_)
  repeat' (first | (simp (disch := omega) only [Sx.sxE, r02_OfUnsigned_E, Nat.reduceAdd, Nat.reduceEqDiff, Nat.reduceMul, Nat.reduceSub, Int.reduceAdd, Int.reduceSub, Int.reduceMul, Int.reduceNeg, Int.reduceLT, Int.reduceLE, Int.reduceEq, Int.reduceToNat, ↓reduceIte, decide_true, decide_false, true_and, and_true, not_false_eq_true, not_true_eq_false, Bool.not_true, Bool.not_false, Bool.not_not, Int.cast_ofNat_Int, Int.toNat_natCast, Int.reducePow, ne_eq, eq_self, and_self, Nat.le_refl, Nat.reduceLeDiff, Nat.reduceLT, Bool.false_eq_true, List.length_cons, List.length_nil]))
theorem of_mag {n : Bool} {m : Int} (h : A4 m) (W : World) : Calls Try.prog 69 #[WV n (lb0 m) (lb1 m) (lb2 m) (lb3 m)] W (MagP W m) := by
  have := rof_any n (lb0 m) (lb1 m) (lb2 m) (lb3 m) (lb0_in m) (lb1_in m) (lb2_in m) (lb3_in m) W
  rw [mv_me h] at this
  exact this
theorem cmp_mul {z y : Int} : (cm z 0 ≠ cm y 0 → cm z y = if cm z 0 < cm y 0 then -1 else 1) ∧ (cm z 0 = cm y 0 → cm z y = cm z 0 * cm (ab z) (ab y)) := by
  rw [cm_zero, cm_zero]
  unfold cm ab
  refine ⟨fun h => ?_, fun h => ?_⟩
  all_goals
    repeat' split
    all_goals (repeat' (split at h))
    all_goals omega
set_option maxRecDepth 100000 in
theorem rg_compare {v v' : Value} {z z' : Int} (h : IsW v z) (h' : IsW v' z') (W : World) : Gives Try.prog 33 [v, v'] W (· = .int .i64 (cm z z')) := by
  have s1 := fun W => rg_sign h W
  have s2 := fun W => rg_sign h' W
  obtain ⟨k1, k2⟩ := cmp_mul (z := z) (y := z')
  obtain ⟨n, m, rfl, am, hab, -, -⟩ := h.me
  obtain ⟨n', m', rfl, am', hab', -, -⟩ := h'.me
  rw [hab, hab'] at k2
  clear h h' hab hab'
  refine gives_known en_r02_Compare ?_
  have b1 : -1 ≤ cm z 0 ∧ cm z 0 ≤ 1 := by rw [cm_zero]; (repeat' split) <;> omega
  have b2 : -1 ≤ cm z' 0 ∧ cm z' 0 ≤ 1 := by rw [cm_zero]; (repeat' split) <;> omega
  have b3 : -1 ≤ cm m m' ∧ cm m m' ≤ 1 := by unfold cm; (repeat' split) <;> omega
  generalize cm z 0 = p at *
  generalize cm z' 0 = q at *
  generalize cm z z' = r at *
  refine Sx.known_of (r02_Compare_start (args := [WV n (lb0 m) (lb1 m) (lb2 m) (lb3 m), WV n' (lb0 m') (lb1 m') (lb2 m') (lb3 m')]) (by simp) ?_)
  by_cases hpq : p = q
  · have hne : (p == q) = true := beq_iff_eq.2 hpq
    repeat' (first | (simp (disch := omega) only [Sx.sxE, r02_Compare_E, Nat.reduceAdd, Nat.reduceEqDiff, Nat.reduceMul, Nat.reduceSub, Int.reduceAdd, Int.reduceSub, Int.reduceMul, Int.reduceNeg, Int.reduceLT, Int.reduceLE, Int.reduceEq, Int.reduceToNat, ↓reduceIte, decide_true, decide_false, true_and, and_true, not_false_eq_true, not_true_eq_false, Bool.not_true, Bool.not_false, Bool.not_not, Int.cast_ofNat_Int, Int.toNat_natCast, Int.reducePow, ne_eq, eq_self, and_self, Nat.le_refl, Nat.reduceLeDiff, Nat.reduceLT, Bool.false_eq_true, List.length_cons, List.length_nil, hne]) | ((with_reducible apply Sx.known_at (f := 47)); (case h => (intro W hW; (change Gives Try.prog _ _ _ _); with_reducible exact s1 W)); (case' hk => skip)) | ((with_reducible apply Sx.asks_at (f := 47)); (case h => (intro W hW; (change Gives Try.prog _ _ _ _); with_reducible exact s1 W)); (case' hk => skip)) | ((with_reducible apply Sx.known_at (f := 47)); (case h => (intro W hW; (change Gives Try.prog _ _ _ _); with_reducible exact s2 W)); (case' hk => skip)) | ((with_reducible apply Sx.asks_at (f := 47)); (case h => (intro W hW; (change Gives Try.prog _ _ _ _); with_reducible exact s2 W)); (case' hk => skip)))
    refine asks_r (L := []) (ws := wl m) en_r02_of (kX_nil _) (fun W hW _ => of_mag am W) fun a1 c1 hs1 hn1 => ?_
    simp (disch := omega) only [Sx.sxE, r02_Compare_E, Nat.reduceAdd, Nat.reduceEqDiff, Nat.reduceMul, Nat.reduceSub, Int.reduceAdd, Int.reduceSub, Int.reduceMul, Int.reduceNeg, Int.reduceLT, Int.reduceLE, Int.reduceEq, Int.reduceToNat, ↓reduceIte, decide_true, decide_false, true_and, and_true, not_false_eq_true, not_true_eq_false, Bool.not_true, Bool.not_false, Bool.not_not, Int.cast_ofNat_Int, Int.toNat_natCast, Int.reducePow, ne_eq, eq_self, and_self, Nat.le_refl, Nat.reduceLeDiff, Nat.reduceLT, Bool.false_eq_true, List.length_cons, List.length_nil]
    refine asks_r (L := [.r (.slice a1 (wl m).length c1) (wl m)]) (ws := wl m') en_r02_of rfl (fun W hW _ => of_mag am' W) fun a2 c2 hs2 hn2 => ?_
    simp (disch := omega) only [Sx.sxE, r02_Compare_E, Nat.reduceAdd, Nat.reduceEqDiff, Nat.reduceMul, Nat.reduceSub, Int.reduceAdd, Int.reduceSub, Int.reduceMul, Int.reduceNeg, Int.reduceLT, Int.reduceLE, Int.reduceEq, Int.reduceToNat, ↓reduceIte, decide_true, decide_false, true_and, and_true, not_false_eq_true, not_true_eq_false, Bool.not_true, Bool.not_false, Bool.not_not, Int.cast_ofNat_Int, Int.toNat_natCast, Int.reducePow, ne_eq, eq_self, and_self, Nat.le_refl, Nat.reduceLeDiff, Nat.reduceLT, Bool.false_eq_true, List.length_cons, List.length_nil]
    refine asks_ext (v := .int .i64 (cm m m')) (fun W hW hok => gives_known en_r02_compare ((rcompare_any _ _ _ _ _ _ _ _ am.1 am'.1 W (hok (.r (.slice a1 (wl m).length c1) (wl m)) (List.mem_cons_of_mem _ List.mem_cons_self)).1 (hok (.r (.slice a2 (wl m').length c2) (wl m')) List.mem_cons_self).1).mono fun e w' ⟨he, d, hd⟩ => ⟨he, by subst hd; exact below_drewN (Below.refl _ _)⟩)) ?_
    have hw : IntKind.i64.wrap (p * cm m m') = r := by
      rw [k2 hpq]
      have p3 : p = -1 ∨ p = 0 ∨ p = 1 := by omega
      have c3 : cm m m' = -1 ∨ cm m m' = 0 ∨ cm m m' = 1 := by omega
      rcases p3 with e | e | e <;> rcases c3 with f | f | f <;> rw [e, f] <;> rfl
    simp (disch := omega) only [Sx.sxE, r02_Compare_E, Nat.reduceAdd, Nat.reduceEqDiff, Nat.reduceMul, Nat.reduceSub, Int.reduceAdd, Int.reduceSub, Int.reduceMul, Int.reduceNeg, Int.reduceLT, Int.reduceLE, Int.reduceEq, Int.reduceToNat, ↓reduceIte, decide_true, decide_false, true_and, and_true, not_false_eq_true, not_true_eq_false, Bool.not_true, Bool.not_false, Bool.not_not, Int.cast_ofNat_Int, Int.toNat_natCast, Int.reducePow, ne_eq, eq_self, and_self, Nat.le_refl, Nat.reduceLeDiff, Nat.reduceLT, Bool.false_eq_true, List.length_cons, List.length_nil, hw]
  · have hr := k1 hpq
    by_cases hlt : p < q
    · rw [if_pos hlt] at hr
      subst hr
      repeat' (first | (simp (disch := omega) only [Sx.sxE, r02_Compare_E, Nat.reduceAdd, Nat.reduceEqDiff, Nat.reduceMul, Nat.reduceSub, Int.reduceAdd, Int.reduceSub, Int.reduceMul, Int.reduceNeg, Int.reduceLT, Int.reduceLE, Int.reduceEq, Int.reduceToNat, ↓reduceIte, decide_true, decide_false, true_and, and_true, not_false_eq_true, not_true_eq_false, Bool.not_true, Bool.not_false, Bool.not_not, Int.cast_ofNat_Int, Int.toNat_natCast, Int.reducePow, ne_eq, eq_self, and_self, Nat.le_refl, Nat.reduceLeDiff, Nat.reduceLT, Bool.false_eq_true, List.length_cons, List.length_nil]) | ((with_reducible apply Sx.known_at (f := 47)); (case h => (intro W hW; (change Gives Try.prog _ _ _ _); with_reducible exact s1 W)); (case' hk => skip)) | ((with_reducible apply Sx.asks_at (f := 47)); (case h => (intro W hW; (change Gives Try.prog _ _ _ _); with_reducible exact s1 W)); (case' hk => skip)) | ((with_reducible apply Sx.known_at (f := 47)); (case h => (intro W hW; (change Gives Try.prog _ _ _ _); with_reducible exact s2 W)); (case' hk => skip)) | ((with_reducible apply Sx.asks_at (f := 47)); (case h => (intro W hW; (change Gives Try.prog _ _ _ _); with_reducible exact s2 W)); (case' hk => skip)))
    · rw [if_neg hlt] at hr
      subst hr
      repeat' (first | (simp (disch := omega) only [Sx.sxE, r02_Compare_E, Nat.reduceAdd, Nat.reduceEqDiff, Nat.reduceMul, Nat.reduceSub, Int.reduceAdd, Int.reduceSub, Int.reduceMul, Int.reduceNeg, Int.reduceLT, Int.reduceLE, Int.reduceEq, Int.reduceToNat, ↓reduceIte, decide_true, decide_false, true_and, and_true, not_false_eq_true, not_true_eq_false, Bool.not_true, Bool.not_false, Bool.not_not, Int.cast_ofNat_Int, Int.toNat_natCast, Int.reducePow, ne_eq, eq_self, and_self, Nat.le_refl, Nat.reduceLeDiff, Nat.reduceLT, Bool.false_eq_true, List.length_cons, List.length_nil]) | ((with_reducible apply Sx.known_at (f := 47)); (case h => (intro W hW; (change Gives Try.prog _ _ _ _); with_reducible exact s1 W)); (case' hk => skip)) | ((with_reducible apply Sx.asks_at (f := 47)); (case h => (intro W hW; (change Gives Try.prog _ _ _ _); with_reducible exact s1 W)); (case' hk => skip)) | ((with_reducible apply Sx.known_at (f := 47)); (case h => (intro W hW; (change Gives Try.prog _ _ _ _); with_reducible exact s2 W)); (case' hk => skip)) | ((with_reducible apply Sx.asks_at (f := 47)); (case h => (intro W hW; (change Gives Try.prog _ _ _ _); with_reducible exact s2 W)); (case' hk => skip)))
end Go.Proofs.Ytlanoclibdhpmaa

/- QPlain: Plain facts: bounds by bits, gcd, fractions. -/
namespace Go.Proofs.Ytlanoclibdhpmaa
open Go Go.RowKit
set_option linter.unusedVariables false
set_option linter.unusedSimpArgs false
/-- Its absolute value has at most k bits. -/
def Bd (k : Nat) (z : Int) : Prop := ab z < ((2 ^ k : Nat) : Int)
theorem ab_mul (x y : Int) : ab (x * y) = ab x * ab y := by
  unfold ab
  rcases Int.lt_or_le x 0 with hx | hx <;> rcases Int.lt_or_le y 0 with hy | hy
  · have : 0 < x * y := Int.mul_pos_of_neg_of_neg hx hy
    rw [if_neg (by omega), if_pos hx, if_pos hy, Int.neg_mul_neg]
  · rw [if_pos hx, if_neg (by omega : ¬ y < 0)]
    rcases Int.lt_or_eq_of_le hy with h | h
    · have : x * y < 0 := Int.mul_neg_of_neg_of_pos hx h
      rw [if_pos this, Int.neg_mul]
    · subst h; simp
  · rw [if_pos hy, if_neg (by omega : ¬ x < 0)]
    rcases Int.lt_or_eq_of_le hx with h | h
    · have : x * y < 0 := Int.mul_neg_of_pos_of_neg h hy
      rw [if_pos this, Int.mul_neg]
    · subst h; simp
  · have : 0 ≤ x * y := Int.mul_nonneg hx hy
    rw [if_neg (by omega), if_neg (by omega), if_neg (by omega)]
theorem ab_pos {z : Int} (h : 0 ≤ z) : ab z = z := by unfold ab; rw [if_neg (by omega)]
theorem ab_ab (z : Int) : ab (ab z) = ab z := ab_pos (ab_nonneg z)
theorem ab_neg (z : Int) : ab (-z) = ab z := by unfold ab; (repeat' split) <;> omega
theorem ab_zero_iff {z : Int} : ab z = 0 ↔ z = 0 := by unfold ab; split <;> omega
theorem bd_mul {a b : Nat} {x y : Int} (hx : Bd a x) (hy : Bd b y) : Bd (a + b) (x * y) := by
  unfold Bd at *
  rw [ab_mul, Nat.pow_add, Int.natCast_mul]
  have h0 := ab_nonneg x
  have h1 := ab_nonneg y
  have h2 := Int.mul_le_mul (Int.le_of_lt hx) (Int.le_of_lt hy) h1 (by omega)
  rcases Int.lt_or_eq_of_le h0 with h | h
  · have : ab x * ab y < ab x * ((2 ^ b : Nat) : Int) := Int.mul_lt_mul_of_pos_left hy h
    have h3 := Int.mul_le_mul_of_nonneg_right (Int.le_of_lt hx) (show (0 : Int) ≤ ((2 ^ b : Nat) : Int) from Int.natCast_nonneg _)
    omega
  · rw [← h, Int.zero_mul]
    rw [← Int.natCast_mul]
    exact Int.natCast_pos.2 (Nat.mul_pos (Nat.two_pow_pos _) (Nat.two_pow_pos _))
theorem bd_le {a b : Nat} {x : Int} (hx : Bd a x) (h : a ≤ b) : Bd b x := by
  unfold Bd at *
  have := Int.ofNat_le.2 (Nat.pow_le_pow_right (show 0 < 2 by decide) h)
  omega
theorem bd_add {a b c : Nat} {x y : Int} (hx : Bd a x) (hy : Bd b y) (h : a < c) (h' : b < c) : Bd c (x + y) := by
  have hx := bd_le hx (show a ≤ c - 1 by omega)
  have hy := bd_le hy (show b ≤ c - 1 by omega)
  unfold Bd at *
  have e : (2 ^ c : Nat) = 2 ^ (c - 1) + 2 ^ (c - 1) := by
    have : c = (c - 1) + 1 := by omega
    rw [this, Nat.pow_succ]; simp; omega
  rw [e]
  have : ab (x + y) ≤ ab x + ab y := by unfold ab; (repeat' split) <;> omega
  omega
theorem bd_neg {a : Nat} {x : Int} (hx : Bd a x) : Bd a (-x) := by unfold Bd at *; rw [ab_neg]; exact hx
theorem bd_sub {a b c : Nat} {x y : Int} (hx : Bd a x) (hy : Bd b y) (h : a < c) (h' : b < c) : Bd c (x - y) := by
  rw [Int.sub_eq_add_neg]; exact bd_add hx (bd_neg hy) h h'
theorem bd_of_le {a : Nat} {x y : Int} (hx : Bd a x) (h : ab y ≤ ab x) : Bd a y := by unfold Bd at *; omega
theorem p64 : ((2 ^ 64 : Nat) : Int) = 18446744073709551616 := by decide
theorem bd_u64 {x : Int} (h : U64 x) : Bd 64 x := by unfold Bd; rw [p64, ab_pos h.1]; have := h.2; omega
theorem bd_i64 {x : Int} (h : I64 x) : Bd 64 x := by
  have h1 := h.1
  have h2 := h.2
  unfold Bd ab; rw [p64]; split <;> omega
theorem Bd.fits {k : Nat} {z : Int} (h : Bd k z) (hk : k ≤ 256 := by decide) : Fits z := by
  have h := bd_le h hk
  rw [fits_lt]
  unfold Bd at h
  rw [show ((2 ^ 256 : Nat) : Int) = 115792089237316195423570985008687907853269984665640564039457584007913129639936 by decide] at h
  exact h
theorem bd_fits {z : Int} (h : Fits z) : Bd 256 z := by
  rw [fits_lt] at h
  unfold Bd
  rw [show ((2 ^ 256 : Nat) : Int) = 115792089237316195423570985008687907853269984665640564039457584007913129639936 by decide]
  exact h
theorem fits_le {x y : Int} (hx : Fits x) (h : ab y ≤ ab x) : Fits y := (bd_of_le (bd_fits hx) h).fits
theorem bd_one : Bd 1 1 := by unfold Bd; decide
theorem bd_zero {k : Nat} : Bd k 0 := by unfold Bd; exact Int.natCast_pos.2 (Nat.two_pow_pos _)
theorem fits_zero : Fits 0 := rfl
theorem ab_div_le {x y : Int} (hx : 0 ≤ x) (hy : 0 ≤ y) : ab (x / y) ≤ ab x := by
  rw [ab_pos hx, ab_pos (Int.ediv_nonneg hx hy)]; exact Int.ediv_le_self _ hx
/-- The floor of a quotient is not greater than the dividend. -/
theorem ab_fdiv_le (x : Int) {y : Int} (hy : 0 < y) : ab (x / y) ≤ ab x := by
  rcases Int.lt_or_le x 0 with h | h
  · have h1 := Int.mul_ediv_add_emod x y
    have h2 := Int.emod_nonneg x (Int.ne_of_gt hy)
    have h3 := Int.emod_lt_of_pos x hy
    have h4 : x / y < 0 := Int.ediv_neg_of_neg_of_pos h hy
    unfold ab
    rw [if_pos h, if_pos h4]
    generalize x / y = q at *
    have h5 : (y - 1) * (q + 1) ≤ 0 := by
      have := Int.mul_le_mul_of_nonneg_left (show q + 1 ≤ 0 by omega) (show 0 ≤ y - 1 by omega)
      omega
    rw [Int.sub_mul, Int.mul_add, Int.one_mul, Int.mul_one] at h5
    omega
  · exact ab_div_le h (by omega)
def gc (x y : Int) : Int := (Int.gcd x y : Int)
theorem gc_nonneg (x y : Int) : 0 ≤ gc x y := Int.natCast_nonneg _
theorem gc_zero (x : Int) (h : 0 ≤ x) : gc x 0 = x := by unfold gc; rw [Int.gcd_zero_right]; omega
theorem gc_step {x y : Int} (hx : 0 ≤ x) (hy : 0 < y) : gc y (x % y) = gc x y := by
  unfold gc
  congr 1
  have e1 : Int.gcd y (x % y) = Int.gcd (x % y) y := Int.gcd_comm _ _
  rw [e1]
  unfold Int.gcd
  obtain ⟨a, rfl⟩ := Int.eq_ofNat_of_zero_le hx
  obtain ⟨b, rfl⟩ := Int.eq_ofNat_of_zero_le (Int.le_of_lt hy)
  show Nat.gcd ((a : Int) % (b : Int)).natAbs ((b : Int).natAbs) = _
  rw [← Int.natCast_emod]
  simp only [Int.natAbs_natCast]
  rw [Nat.gcd_comm a b, Nat.gcd_rec b a]
theorem gc_abs (x y : Int) : gc (ab x) (ab y) = gc x y := by
  have e : ∀ z : Int, (ab z).natAbs = z.natAbs := fun z => by unfold ab; split <;> omega
  unfold gc Int.gcd
  rw [e, e]
theorem gc_abl (x y : Int) : gc (ab x) y = gc x y := by
  have e : ∀ z : Int, (ab z).natAbs = z.natAbs := fun z => by unfold ab; split <;> omega
  unfold gc Int.gcd
  rw [e]
theorem gc_dvd_l (x y : Int) : gc x y ∣ x := Int.gcd_dvd_left ..
theorem gc_dvd_r (x y : Int) : gc x y ∣ y := Int.gcd_dvd_right ..
theorem gc_pos {x y : Int} (h : y ≠ 0) : 0 < gc x y := by
  have := gc_nonneg x y
  have h2 := gc_dvd_r x y
  rcases Int.lt_or_eq_of_le this with h3 | h3
  · exact h3
  · rw [← h3] at h2; exact absurd (Int.zero_dvd.1 h2) h
theorem gc_le {x y : Int} (h : 0 < y) : gc x y ≤ y := Int.le_of_dvd h (gc_dvd_r x y)
theorem gc_neg (x y : Int) : gc (-x) y = gc x y := by unfold gc; rw [Int.neg_gcd]
theorem gc_div (x y : Int) (h : y ≠ 0) : gc (x / gc x y) (y / gc x y) = 1 := by
  have hp := gc_pos (x := x) h
  unfold gc at *
  rw [Int.gcd_ediv_gcd_ediv_gcd (by omega)]; rfl
/-- A valid fraction. -/
structure Fq (p q : Int) : Prop where
  pos : 0 < q
  bp : Bd 127 p
  bq : Bd 127 q
  gc : gc p q = 1
theorem Fq.ne {p q : Int} (h : Fq p q) : q ≠ 0 := Int.ne_of_gt h.pos
theorem Fq.fp {p q : Int} (h : Fq p q) : Fits p := h.bp.fits
theorem Fq.fq {p q : Int} (h : Fq p q) : Fits q := h.bq.fits
theorem fq_zero : Fq 0 1 := ⟨by decide, bd_zero, bd_le bd_one (by decide), rfl⟩
theorem fq_int {z : Int} (h : Bd 127 z) : Fq z 1 := ⟨by decide, h, bd_le bd_one (by decide), by unfold Go.Proofs.Ytlanoclibdhpmaa.gc; rw [Int.gcd_one_right]; rfl⟩
/-- What Valid says of a raw fraction: both parts count (b), and of its integers. -/
def rok (b : Bool) (p q : Int) : Bool := b && (decide (0 < q) && (decide (ab p < ((2 ^ 127 : Nat) : Int)) && (decide (ab q < ((2 ^ 127 : Nat) : Int)) && decide (gc p q = 1))))
theorem rok_iff {b : Bool} {p q : Int} : rok b p q = true ↔ b = true ∧ Fq p q := by
  unfold rok
  simp only [Bool.and_eq_true, decide_eq_true_eq]
  exact ⟨fun ⟨a, b, c, d, e⟩ => ⟨a, b, c, d, e⟩, fun ⟨a, b, c, d, e⟩ => ⟨a, b, c, d, e⟩⟩
/-- The fraction that counts. -/
def qn (b : Bool) (p q : Int) : Int := if rok b p q then p else 0
def qd (b : Bool) (p q : Int) : Int := if rok b p q then q else 1
theorem fq_clean (b : Bool) (p q : Int) : Fq (qn b p q) (qd b p q) := by
  unfold qn qd
  cases h : rok b p q
  · exact fq_zero
  · exact (rok_iff.1 h).2
/-- The fraction z / y in lowest terms. -/
def mn (z y : Int) : Int := (if y < 0 then -z else z) / gc z y
def mD (z y : Int) : Int := ab y / gc z y
theorem mk_pos {z y : Int} (h : y ≠ 0) : 0 < mD z y := by
  unfold mD
  have hp := gc_pos (x := z) h
  have h1 : gc z y ∣ ab y := by unfold ab; split; exact Int.dvd_neg.2 (gc_dvd_r _ _); exact gc_dvd_r _ _
  obtain ⟨k, hk⟩ := h1
  rw [hk, Int.mul_ediv_cancel_left _ (by omega)]
  have : 0 < ab y := by unfold ab; split <;> omega
  rw [hk] at this
  rcases Int.lt_or_le 0 k with h2 | h2
  · exact h2
  · have := Int.mul_le_mul_of_nonneg_left h2 (Int.le_of_lt hp); omega
theorem gc_sym (x y : Int) : gc x y = gc y x := by unfold gc; rw [Int.gcd_comm]
theorem gc_ngr (x y : Int) : gc x (-y) = gc x y := by rw [gc_sym, gc_neg, gc_sym]
theorem mk_gc {z y : Int} (h : y ≠ 0) : gc (mn z y) (mD z y) = 1 := by
  unfold mn mD ab
  by_cases hy : y < 0
  · rw [if_pos hy, if_pos hy]
    have := gc_div (-z) (-y) (by omega)
    rw [gc_neg, gc_ngr] at this
    exact this
  · rw [if_neg hy, if_neg hy]
    exact gc_div z y h
def mok (b : Bool) (z y : Int) : Bool := b && (!(decide (y = 0)) && (decide (ab (mn z y) < ((2 ^ 127 : Nat) : Int)) && decide (ab (mD z y) < ((2 ^ 127 : Nat) : Int))))
theorem mok_fq {b : Bool} {z y : Int} (h : mok b z y = true) : Fq (mn z y) (mD z y) := by
  unfold mok at h
  simp only [Bool.and_eq_true, Bool.not_eq_true', decide_eq_false_iff_not, decide_eq_true_eq] at h
  obtain ⟨_, h1, h2, h3⟩ := h
  exact ⟨mk_pos h1, h2, h3, mk_gc h1⟩
end Go.Proofs.Ytlanoclibdhpmaa

/- Made: The tape of tscodecmade: what its methods return, and that they turn nothing but the tape's own place. -/
namespace Go.Proofs.Ytlanoclibdhpmaa
open Go.ChangeShapes Go.WideShapes Go.ChangeAt Go.RowKit
set_option linter.unusedVariables false
set_option linter.unusedSimpArgs false
theorem quiet_left {P : Program} {f : FuncId} {args : Array Value} {w : World} {n : Nat} {v : Value} (h : Calls P f args (w.drewN n) fun e w' => e = .returned v ∧ w.drewN n = w') : Calls P f args (w.drewN n) fun e w' => e = .returned v ∧ ∃ m, w' = w.drewN m :=
  h.mono fun _ _ ⟨he, hm⟩ => ⟨he, n, hm.symm⟩
theorem grown_refl (w : World) (row : Option Nat) : w.grownBy w row := ⟨rfl, rfl, rfl, Nat.le_refl _, fun _ _ _ => rfl⟩
theorem grown_drewN {a w : World} {row : Option Nat} (h : a.grownBy w row) (n : Nat) : a.grownBy (w.drewN n) row := ⟨h.os, h.tape, h.output, h.size, h.block⟩
theorem grown_setCell {a w : World} {g : Nat} (h : a.grownBy w (some g)) {p : Addr} (hp : p.block = g ∨ a.heap.size ≤ p.block) (u : Value) : a.grownBy (w.setCell p u) (some g) :=
  ⟨h.os, h.tape, h.output, by simpa [World.setCell] using h.size, fun i hi hne => (Below.heap_setCell w p u i (by
    rintro rfl
    rcases hp with hp | hp
    · exact hne (by rw [hp])
    · omega)).trans (h.block i hi hne)⟩
theorem grown_trans {a b c : World} {row : Option Nat} (h : a.grownBy b row) (k : b.grownBy c row) : a.grownBy c row :=
  ⟨k.os.trans h.os, k.tape.trans h.tape, k.output.trans h.output, Nat.le_trans h.size k.size, fun i hi hn => (k.block i (Nat.lt_of_lt_of_le hi h.size) hn).trans (h.block i hi hn)⟩
theorem grown_below {a w : World} (h : Below a.heap.size a w) (row : Option Nat) : a.grownBy w row := ⟨h.os, h.tape, h.output, h.size, fun i hi _ => h.block i hi⟩
/-- Block b holds a tape: a slice of ints and a place in it; both lie below block B. -/
def TapeOk (B Bm : Nat) (w : World) (b : Nat) : Prop := ∃ (a : Option Addr) (len cap k : Nat), b < B ∧ B ≤ w.heap.size ∧ w.cell? ⟨b, 0, none⟩ = some (.slice a len cap) ∧ w.cell? ⟨b, 1, none⟩ = some (.int .i64 k) ∧ w.frozen? ⟨b, 1, none⟩ = false ∧
  k ≤ len ∧ len ≤ 9223372036854775807 ∧ (0 < len → ∃ bb off, a = some ⟨bb, off, none⟩ ∧ bb ≠ b ∧ bb < B ∧ bb < Bm ∧ ∀ i, i < len → ∃ x, w.cell? ⟨bb, off + i, none⟩ = some (.int .i64 x) ∧ I64 x)
theorem TapeOk.ltB {B Bm : Nat} {w : World} {b : Nat} (h : TapeOk B Bm w b) : b < B := by obtain ⟨_, _, _, _, h, _⟩ := h; exact h
theorem TapeOk.leB {B Bm : Nat} {w : World} {b : Nat} (h : TapeOk B Bm w b) : B ≤ w.heap.size := by obtain ⟨_, _, _, _, _, h, _⟩ := h; exact h
theorem TapeOk.lt {B Bm : Nat} {w : World} {b : Nat} (h : TapeOk B Bm w b) : b < w.heap.size := Nat.lt_of_lt_of_le h.ltB h.leB
theorem TapeOk.below {B Bm : Nat} {w w' : World} {b : Nat} (h : TapeOk B Bm w b) (hb : Below B w w') : TapeOk B Bm w' b := by
  obtain ⟨a, len, cap, k, h1, h0, h2, h3, h4, h5, h6, h7⟩ := h
  refine ⟨a, len, cap, k, h1, Nat.le_trans h0 hb.size, (hb.cell h1).trans h2, (hb.cell h1).trans h3, (hb.frozen h1).trans h4, h5, h6, fun hl => ?_⟩
  obtain ⟨bb, off, e, hne, hlt, hlm, hc⟩ := h7 hl
  exact ⟨bb, off, e, hne, hlt, hlm, fun i hi => by
    obtain ⟨x, hx, hix⟩ := hc i hi
    exact ⟨x, (hb.cell hlt).trans hx, hix⟩⟩
theorem TapeOk.grown {B Bm : Nat} {w w' : World} {b : Nat} {row : Option Nat} (h : TapeOk B Bm w b) (hg : w.grownBy w' row) (hr : ∀ k, row = some k → B ≤ k) : TapeOk B Bm w' b :=
  h.below ((Below.refl B w).grown hg h.leB hr)
theorem TapeOk.drew {B Bm : Nat} {w : World} {b : Nat} (h : TapeOk B Bm w b) : TapeOk B Bm w.drew b := h
theorem TapeOk.drewN {B Bm : Nat} {w : World} {b : Nat} (h : TapeOk B Bm w b) (n : Nat) : TapeOk B Bm (w.drewN n) b := h
theorem TapeOk.alloc {B Bm : Nat} {w : World} {b : Nat} (h : TapeOk B Bm w b) (o : Obj) : TapeOk B Bm (w.alloc o) b := h.below ((Below.refl B w).alloc h.leB o)
theorem grown_of_drew {w w' : World} {row : Option Nat} (h : w.drew.grownBy w' row) : w.grownBy w' row := ⟨h.os, h.tape, h.output, h.size, h.block⟩
theorem grown_alloc {a w : World} {row : Option Nat} (h : a.grownBy w row) (o : Obj) : a.grownBy (w.alloc o) row :=
  ⟨h.os, h.tape, h.output, Nat.le_trans h.size (by simp), fun i hi hne => (Below.heap_alloc w o i (Nat.lt_of_lt_of_le hi h.size)).trans (h.block i hi hne)⟩
/-- What a method of the tape in block b leaves: a number, the tape, and nothing else turned. -/
def TPost (B Bm : Nat) (k : IntKind) (b : Nat) (w : World) (P : Int → Prop) (e : Ending) (w' : World) : Prop := ∃ r, P r ∧ e = .returned (.int k r) ∧ TapeOk B Bm w' b ∧ w.grownBy w' (some b)
def md (a n : Int) : Int := if n < 1 then 0 else a % n
theorem md_neg {a n : Int} (h : ¬ n < 1) (hr : a.tmod n < 0) : a.tmod n + n = md a n := by
  unfold md; rw [if_neg h, Int.tmod_eq_emod]
  by_cases h0 : 0 ≤ a ∨ n ∣ a
  · rw [Int.tmod_eq_emod, if_pos h0] at hr
    have := Int.emod_nonneg a (b := n) (by omega); omega
  · rw [if_neg h0]; omega
theorem md_pos {a n : Int} (h : ¬ n < 1) (hr : ¬ a.tmod n < 0) : a.tmod n = md a n := by
  unfold md; rw [if_neg h, Int.tmod_eq_emod]
  by_cases h0 : 0 ≤ a ∨ n ∣ a
  · rw [if_pos h0]; omega
  · rw [Int.tmod_eq_emod, if_neg h0] at hr
    have := Int.emod_lt_of_pos a (b := n) (by omega); omega
theorem md_one {a n : Int} (h : n < 1) : 0 = md a n := by unfold md; rw [if_pos h]
theorem md_bd (a n : Int) : 0 ≤ md a n ∧ (1 ≤ n → md a n < n) ∧ (n < 1 → md a n = 0) := by
  unfold md; split
  · exact ⟨by omega, by omega, fun _ => rfl⟩
  · exact ⟨Int.emod_nonneg a (by omega), fun _ => Int.emod_lt_of_pos a (by omega), fun h => by omega⟩
theorem mod_any (a n : Int) (ha : I64 a) (hn : I64 n) (w : World) :
    Calls Try.prog 50 #[.int .i64 a, .int .i64 n] w fun e w' => e = .returned (.int .i64 (md a n)) ∧ w = w' := by
  obtain ⟨n1, n2⟩ := hn
  by_cases h : n < 1
  · go_enter Try.func50, Try.ntmps50
    go_wp2
    go_ret
    exact ⟨ret_i (md_one h), rfl⟩
  have t0 : (n == 0) = false := beq_eq_false_iff_ne.2 (by omega)
  have M := md_bd a n
  by_cases hr : a.tmod n < 0
  · have e := md_neg h hr
    have hb : a.tmod n + n ≤ 9223372036854775807 := by omega
    have hb' : -9223372036854775808 ≤ a.tmod n + n := by omega
    have E := hid e
    clear e
    clear M
    go_enter Try.func50, Try.ntmps50
    go_wp2
    go_ret
    exact ⟨ret_i E.out, rfl⟩
  · have E := hid (md_pos h hr)
    have t1 : decide (a.tmod n < 0) = false := dF hr
    clear M hr
    go_enter Try.func50, Try.ntmps50
    go_wp2
    all_goals go_ret
    all_goals exact ⟨ret_i E.out, rfl⟩
def NextP (n : Int) (r : Int) : Prop := 0 ≤ r ∧ (1 ≤ n → r < n) ∧ (n < 1 → r = 0)
theorem NextP.zero (n : Int) : NextP n 0 := ⟨by omega, by omega, fun _ => rfl⟩
theorem new_any (a : Option Addr) (len cap : Nat) (w : World) :
    Calls Try.prog 14 #[.slice a len cap] w fun e w' => e = .returned (.pointer (some ⟨w.heap.size, 0, none⟩)) ∧ w.alloc (.cells #[.slice a len cap, .int .i64 0] 70) = w' := by
  go_enter Try.func14, Try.ntmps14
  go_wp2
  go_ret
  exact ⟨rfl, rfl⟩
theorem next_end {B Bm : Nat} (b : Nat) (n : Int) (w : World) (a : Option Addr) (len cap : Nat) (h0 : w.cell? ⟨b, 0, none⟩ = some (.slice a len cap)) (h1 : w.cell? ⟨b, 1, none⟩ = some (.int .i64 len)) (hl : len ≤ 9223372036854775807) (ht : TapeOk B Bm w b) :
    Calls Try.prog 18 #[.pointer (some ⟨b, 0, none⟩), .int .i64 n] w (TPost B Bm .i64 b w (NextP n)) := by
  have H := hid ht
  clear ht
  go_enter Try.func18, Try.ntmps18
  go_wp2
  go_quiet (fail)
  go_wp2
  go_ret
  exact ⟨0, NextP.zero n, rfl, H.out, grown_drewN (grown_refl _ _) _⟩
theorem next_more {B Bm : Nat} (b : Nat) (n : Int) (hn : I64 n) (w : World) (bb off len cap k : Nat) (x : Int) (hx : I64 x) (h0 : w.cell? ⟨b, 0, none⟩ = some (.slice (some ⟨bb, off, none⟩) len cap)) (h1 : w.cell? ⟨b, 1, none⟩ = some (.int .i64 k)) (hf : w.frozen? ⟨b, 1, none⟩ = false)
    (hk : k < len) (hl : len ≤ 9223372036854775807) (hc : w.cell? ⟨bb, off + k, none⟩ = some (.int .i64 x)) (hne : bb ≠ b) (ht : ∀ m m' : Nat, TapeOk B Bm (((w.drewN m).setCell ⟨b, 1, none⟩ (.int .i64 (k + 1 : Nat))).drewN m') b) :
    Calls Try.prog 18 #[.pointer (some ⟨b, 0, none⟩), .int .i64 n] w (TPost B Bm .i64 b w (NextP n)) := by
  have H := hid ht
  clear ht
  have t1 : decide (len ≤ k) = false := dF (by omega)
  have e2 : ((k : Int) + 1).toNat = k + 1 := by omega
  go_enter Try.func18, Try.ntmps18
  go_wp2
  go_quiet (fail)
  go_wp2
  go_quiet ((go_at_call 50; exact quiet_left (mod_any x n hx hn _)))
  go_wp2
  go_ret
  exact ⟨_, md_bd x n, rfl, H.out _ _, grown_drewN (grown_setCell (grown_drewN (grown_refl _ _) _) (.inl rfl) _) _⟩
theorem tape_moved {B Bm : Nat} (w : World) (b : Nat) (a : Option Addr) (len cap k : Nat) (h1 : b < B) (hB : B ≤ w.heap.size) (h2 : w.cell? ⟨b, 0, none⟩ = some (.slice a len cap)) (h3 : w.cell? ⟨b, 1, none⟩ = some (.int .i64 k)) (h4 : w.frozen? ⟨b, 1, none⟩ = false)
    (h5 : k < len) (h6 : len ≤ 9223372036854775807) (h7 : 0 < len → ∃ bb off, a = some ⟨bb, off, none⟩ ∧ bb ≠ b ∧ bb < B ∧ bb < Bm ∧ ∀ i, i < len → ∃ x, w.cell? ⟨bb, off + i, none⟩ = some (.int .i64 x) ∧ I64 x) (m m' : Nat) :
    TapeOk B Bm (((w.drewN m).setCell ⟨b, 1, none⟩ (.int .i64 (k + 1 : Nat))).drewN m') b := by
  have e : ((((w.drewN m).setCell ⟨b, 1, none⟩ (.int .i64 (k + 1 : Nat))).drewN m').heap.size) = w.heap.size := by simp [World.setCell, World.drewN]
  have other : ∀ p : Addr, p ≠ ⟨b, 1, none⟩ → (((w.drewN m).setCell ⟨b, 1, none⟩ (.int .i64 (k + 1 : Nat))).drewN m').cell? p = w.cell? p := fun p hp => by
    rw [World.cell?_drewN, World.cell?_setCell_other _ _ _ _ (fun e => hp e.symm), World.cell?_drewN]
  refine ⟨a, len, cap, k + 1, h1, by rw [e]; exact hB, ?_, ?_, ?_, by omega, h6, fun hl => ?_⟩
  · rw [other _ (by simp)]; exact h2
  · rw [World.cell?_drewN]; exact World.cell?_setCell_same _ _ _ (u := .int .i64 k) (by rw [World.cell?_drewN]; exact h3)
  · show World.frozen? ((w.drewN m).setCell ⟨b, 1, none⟩ _) _ = false
    rw [World.frozen?_setCell]; exact h4
  · obtain ⟨bb, off, ea, hne, hlt, hlm, hc⟩ := h7 hl
    refine ⟨bb, off, ea, hne, hlt, hlm, fun i hi => ?_⟩
    obtain ⟨x, hx, hix⟩ := hc i hi
    exact ⟨x, by rw [other _ (by simp; try (intro h; exact absurd h hne))]; exact hx, hix⟩
theorem next_any {B Bm : Nat} (b : Nat) (n : Int) (hn : I64 n) (w : World) (ht : TapeOk B Bm w b) :
    Calls Try.prog 18 #[.pointer (some ⟨b, 0, none⟩), .int .i64 n] w (TPost B Bm .i64 b w (NextP n)) := by
  have ht' := ht
  obtain ⟨a, len, cap, k, h1, hB, h2, h3, h4, h5, h6, h7⟩ := ht
  by_cases hk : k < len
  · obtain ⟨bb, off, rfl, hne, hlt, hlm, hc⟩ := h7 (by omega)
    obtain ⟨x, hx, hix⟩ := hc k hk
    exact next_more b n hn w bb off len cap k x hix h2 h3 h4 hk h6 hx hne (fun m m' => tape_moved w b _ len cap k h1 hB h2 h3 h4 hk h6 h7 m m')
  · obtain rfl : k = len := by omega
    exact next_end b n w a k cap h2 h3 h6 ht'
def BPost (B Bm : Nat) (b : Nat) (w : World) (e : Ending) (w' : World) : Prop := ∃ r : Bool, e = .returned (.bool r) ∧ TapeOk B Bm w' b ∧ w.grownBy w' (some b)
theorem bool_any {B Bm : Nat} (b : Nat) (n : Int) (h1 : 2 ≤ n) (h2 : n ≤ 1000) (w : World) (ht : TapeOk B Bm w b) :
    Calls Try.prog 49 #[.pointer (some ⟨b, 0, none⟩), .int .i64 n] w (BPost B Bm b w) := by
  have hn : I64 n := ⟨by omega, by omega⟩
  have t0 : (n == 0) = false := beq_eq_false_iff_ne.2 (by omega)
  have H : Hid (TapeOk B Bm w.drew b) := ht.drew
  clear ht
  go_enter Try.func49, Try.ntmps49
  go_wp2
  go_region_with (go_at_call 18; refine (next_any b n hn _ H.out).mono ?_; rintro e w' ⟨r, ⟨r1, r2, r3⟩, rfl, ht, hg⟩)
  all_goals (go_wp2; go_ret; exact ⟨_, rfl, ht, grown_of_drew hg⟩)
theorem word_any {B Bm : Nat} (b : Nat) (w : World) (ht : TapeOk B Bm w b) :
    Calls Try.prog 35 #[.pointer (some ⟨b, 0, none⟩)] w (TPost B Bm .u64 b w U64) := by
  have H := hid ht
  clear ht
  go_enter Try.func35, Try.ntmps35
  go_wp2
  go_loopw [3, 4] (fun x i wr => ∃ (k : Nat) (r : Int), k ≤ 4 ∧ U64 r ∧ x = .int .u64 r ∧ i = .int .i64 k ∧ TapeOk B Bm wr b ∧ w.grownBy wr (some b)) (fun _ i _ => 4 - (intOf i).toNat)
  case atStart => exact ⟨0, 0, by omega, ⟨by decide, by decide⟩, rfl, rfl, H.out, grown_refl _ _⟩
  case round =>
    obtain ⟨k, r, hk, hr, rfl, rfl, ht, hg⟩ := hrel
    have HT := hid ht
    have HG := hid hg
    clear ht hg
    by_cases hlt : k < 4
    · go_wp2_with (go_at_call 18; refine (next_any b 65536 ⟨by decide, by decide⟩ _ HT.out).mono ?_; rintro e w' ⟨r', ⟨r1, r2, r3⟩, rfl, ht, hg⟩)
      go_roundw
      case rel => exact ⟨k + 1, _, by omega, u64_wrap_in _, rfl, by go_num, ht, grown_trans HG.out hg⟩
      case measure => simp [intOf]; omega
    · go_wp2
      go_ret
      exact ⟨r, hr, rfl, HT.out, HG.out⟩
theorem int_any {B Bm : Nat} (b : Nat) (w : World) (ht0 : TapeOk B Bm w b) :
    Calls Try.prog 17 #[.pointer (some ⟨b, 0, none⟩)] w (TPost B Bm .i64 b w I64) := by
  go_enter Try.func17, Try.ntmps17
  go_wp2_with (first | (go_at_call 18; refine (next_any b _ (by exact ⟨by decide, by decide⟩) _ (by assumption)).mono ?_; rintro e w' ⟨r, ⟨r1, r2, r3⟩, rfl, ht, hg⟩) | (go_at_call 35; refine (word_any b _ (by assumption)).mono ?_; rintro e w' ⟨u, ⟨u1, u2⟩, rfl, ht, hg⟩))
  all_goals (go_ret; refine ⟨_, ?_, rfl, by assumption, by repeat (first | assumption | exact grown_refl _ _ | refine grown_trans ?_ (by assumption))⟩)
  all_goals first | exact i64_wrap_in _ | exact ⟨by omega, by omega⟩ | skip
end Go.Proofs.Ytlanoclibdhpmaa

/- Law: A law's frame: the arguments opened, and what is owed behind the call, once for all laws of this seat. -/
namespace Go.Proofs.Ytlanoclibdhpmaa
open Go.ChangeShapes Go.WideShapes Go.ChangeAt Go.RowKit
set_option linter.unusedVariables false
set_option linter.unusedSimpArgs false
theorem own : ownKnob Try.prog.godebug = none := by kernel_rfl
theorem laidOut : laidOutB Try.prog = true := by kernel_rfl
section
variable {H : Type} {enc : TypeId × Value → H} {P : Program}
def readB (P : Program) (ts : List TypeId) : Bool := ts.all fun t => P.readableRec t && decide (t < P.types.size)
theorem below_trodAll (hl : laidOutB P = true) {W W' : World} (hb : Below W.heap.size W W') {sp : Nat → Bool} :
    ∀ {ts : List TypeId} {vs : List Value} {ds : List (DataW H)} {ps : List MemPlace}, readB P ts = true → DataW.TrodAll enc P W 0 (fun _ => true) true ts vs ds ps → (∀ x ∈ ps, x.block < W.heap.size) → (∀ x ∈ ps, sp x.block = true) →
      DataW.TrodAll enc P W' 0 sp true ts vs ds ps := by
  intro ts
  induction ts with
  | nil =>
    intro vs ds ps _ h _ _
    obtain ⟨rfl, rfl, rfl⟩ := trodAll_nil h
    exact trodAll_mk0
  | cons t ts ih =>
    intro vs ds ps hr h hlt hsp
    obtain ⟨v, vs', d, ds', p, q, rfl, rfl, rfl, h0, h1⟩ := trodAll_cons h
    simp only [readB, List.all_cons, Bool.and_eq_true, decide_eq_true_eq] at hr
    refine trodAll_cons_mk (WideElems.Trod_stays hl hr.1.1 hr.1.2 h0 (fun x hx => hb.same (hlt x (List.mem_append_left _ hx))) (fun x hx => hsp x (List.mem_append_left _ hx))) ?_
    exact ih (by simpa [readB] using hr.2) h1 (fun x hx => hlt x (List.mem_append_right _ hx)) (fun x hx => hsp x (List.mem_append_right _ hx))
/-- What is owed behind a law's call: it returned true, and below the heap's old size nothing has turned. -/
theorem law_post {f : Func} {s : ChangeSpec} {W W' : World} {args : Array Value} {ds : List (DataW H)} {p : List MemPlace} {tb : TypeId}
    (hl : laidOutB P = true) (hr : readB P f.params.toList = true) (hvars : s.vars = []) (hrt : f.resultTypes = #[tb]) (htb : P.underlying tb = some .bool)
    (hW : DataW.Whole enc P f.params.toList s.vars false W args.toList ds [] p) (hs1 : (s.fn H (ds ++ [])).results = [.lit (.bool true)]) (hs2 : (s.fn H (ds ++ [])).args = ds) (hs3 : (s.fn H (ds ++ [])).vars = [])
    (hb : Below W.heap.size W W') : s.post enc P f false true false false W args (.bool true) W' := by
  have hlt : ∀ x ∈ p, x.block < W.heap.size := fun x hx => hW.lt x hx
  have hW2 := hW
  obtain ⟨p1, q1, hA, hV, rfl, hz, hn⟩ := hW2
  rw [hvars] at hV
  obtain ⟨_, rfl⟩ := trodVars_none hV
  simp only [List.append_nil] at hW hlt hz hn
  refine ⟨ds, [], p1, [], p1, [], hW, ?_, ?_, ?_, World.keptBut_mono (fun x hx => ⟨hx, Or.inr (Or.inl hx)⟩) (hb.frame (· ∈ p1)), fun h => by cases h⟩
  · rw [hs1, hrt]
    exact trodAll_mk1 (shut_bool htb _)
  · rw [hs2]
    exact below_trodAll hl hb hr hA hlt (fun x hx => by simpa using hlt x hx)
  · rw [hs3, hvars]; rfl
/-- A slice of integers as the world holds it. -/
def SlZ (W : World) (k : IntKind) (v : Value) (zs : List Int) : Prop := ∃ (a : Option Addr) (len cap : Nat), v = .slice a len cap ∧ zs.length = len ∧ len ≤ cap ∧ cap ≤ maxLen ∧ (∀ z ∈ zs, (Lit.int k z).wf = true) ∧
  (0 < len → ∃ b off, a = some ⟨b, off, none⟩ ∧ b < W.heap.size ∧ ∀ i, i < len → W.cell? ⟨b, off + i, none⟩ = some (.int k (zs.getD i 0)))
theorem open_slz {t e : TypeId} {k : IntKind} {v : Value} {d : DataW H} {ps : List MemPlace} {W : World} {base : Nat} (ht : P.underlying t = some (.slice e)) (he : P.underlying e = some (.int k)) (hc : P.cellsOf e = 1)
    (hv : Value.okWide P W .any base t v) (h : DataW.Trod enc P W 0 (fun _ => true) true t v d ps) (hlt : ∀ x ∈ ps, x.block < W.heap.size) : ∃ zs, SlZ W k v zs := by
  obtain ⟨a0, len, cap, rfl⟩ := okWide_slice ht hv
  obtain ⟨fuel, hf⟩ := h
  rcases open_ints ht he hc hf with ⟨hcs, hx⟩ | ⟨a, len', cap', zs, hcs, _, hl, hm, hz, hx, hcell, hwz⟩
  · simp [Value.cells] at hcs
    obtain ⟨rfl, rfl, rfl⟩ := hcs
    exact ⟨[], none, 0, 0, rfl, rfl, Nat.le_refl _, by simp [maxLen], by simp, fun h => absurd h (by omega)⟩
  · simp [Value.cells] at hcs
    obtain ⟨rfl, rfl, rfl⟩ := hcs
    simp only [Prod.mk.injEq] at hx
    obtain ⟨rfl, rfl⟩ := hx
    simp only [if_true] at hz
    refine ⟨zs.take len, some a, len, cap, rfl, by simp; omega, hl, hm, fun z hz' => hwz z (List.mem_of_mem_take hz'), fun hpos => ?_⟩
    obtain ⟨b, off, rfl, hc'⟩ := ints_at hcell (by omega)
    refine ⟨b, off, rfl, hlt (.cell b off) (MemPlace.mem_row.2 ⟨0, by omega, by simp⟩), fun i hi => ?_⟩
    rw [show (zs.take len).getD i 0 = zs.getD i 0 by simp [List.getD_eq_getElem?_getD, List.getElem?_take, hi]]
    exact hc' i (by omega)
end
end Go.Proofs.Ytlanoclibdhpmaa

/- MadeW: The tape's Wide, and the walk among calls of a tape's methods. -/
namespace Go.Proofs.Ytlanoclibdhpmaa
open Go.ChangeShapes Go.WideShapes Go.ChangeAt Go.RowKit
set_option linter.unusedVariables false
set_option linter.unusedSimpArgs false
theorem HB.gne {W W' : World} {b g : Nat} {cs : Array Value} (h : HB W b cs) (hg : W.grownBy W' (some g)) (hne : b ≠ g) : HB W' b cs := by
  have hl := h.lt
  obtain ⟨T, h⟩ := h
  exact ⟨T, (hg.block b hl (fun e => hne (Option.some.inj e))).trans h⟩
theorem grown_bel {a w w' : World} {row : Option Nat} (h : a.grownBy w row) (hb : Below w.heap.size w w') : a.grownBy w' row := grown_trans h (grown_below hb row)
theorem grown_drew {a w : World} {row : Option Nat} (h : a.grownBy w row) : a.grownBy w.drew row := ⟨h.os, h.tape, h.output, h.size, h.block⟩
theorem TapeOk.bel {B Bm : Nat} {w w' : World} {b : Nat} (h : TapeOk B Bm w b) (hb : Below w.heap.size w w') : TapeOk B Bm w' b := h.below (Below.mono hb h.leB)
theorem TapeOk.setc {B Bm : Nat} {w : World} {b : Nat} {p : Addr} {v : Value} (hp : B ≤ p.block) (h : TapeOk B Bm w b) : TapeOk B Bm (w.setCell p v) b := h.below ((Below.refl B w).setCell hp v)
/-- What is known while the tape's Wide runs: the tape, the blocks of the result and of the variable. -/
def AWs (B Bm b q : Nat) (w W : World) : Prop := TapeOk B Bm W b ∧ w.grownBy W (some b) ∧ HB W q #[.bool false, .int .u64 0, .int .u64 0, .int .u64 0, .int .u64 0] ∧ ∃ (n : Bool) (c0 c1 c2 c3 : Int), U64 c0 ∧ U64 c1 ∧ U64 c2 ∧ U64 c3 ∧ HB W (q + 1) #[.bool n, .int .u64 c0, .int .u64 c1, .int .u64 c2, .int .u64 c3]
def WPost (B Bm : Nat) (b : Nat) (w : World) (e : Ending) (w' : World) : Prop := ∃ n a b' c d, U64 a ∧ U64 b' ∧ U64 c ∧ U64 d ∧ e = .returned (WV n a b' c d) ∧ TapeOk B Bm w' b ∧ w.grownBy w' (some b)
theorem AWs.tape {B Bm b q : Nat} {w W : World} (h : AWs B Bm b q w W) : TapeOk B Bm W b := h.1
theorem AWs.drew {B Bm b q : Nat} {w W : World} (h : AWs B Bm b q w W) : AWs B Bm b q w W.drew := by
  obtain ⟨ht, hG, B1, n, c0, c1, c2, c3, u0, u1, u2, u3, B2⟩ := h
  exact ⟨ht.drew, grown_drew hG, B1.drew, n, c0, c1, c2, c3, u0, u1, u2, u3, B2.drew⟩
theorem AWs.alloc {B Bm b q : Nat} {w W : World} (h : AWs B Bm b q w W) (o : Obj) : AWs B Bm b q w (W.alloc o) := by
  obtain ⟨ht, hG, B1, n, c0, c1, c2, c3, u0, u1, u2, u3, B2⟩ := h
  exact ⟨ht.alloc _, grown_alloc hG _, B1.old B1.lt, n, c0, c1, c2, c3, u0, u1, u2, u3, B2.old B2.lt⟩
theorem AWs.bel {B Bm b q : Nat} {w W W' : World} (h : AWs B Bm b q w W) (hb : Below W.heap.size W W') : AWs B Bm b q w W' := by
  obtain ⟨ht, hG, B1, n, c0, c1, c2, c3, u0, u1, u2, u3, B2⟩ := h
  exact ⟨ht.bel hb, grown_bel hG hb, B1.below hb, n, c0, c1, c2, c3, u0, u1, u2, u3, B2.below hb⟩
theorem AWs.gne {B Bm b q : Nat} {w W W' : World} (h : AWs B Bm b q w W) (hg : W.grownBy W' (some b)) (ht' : TapeOk B Bm W' b) (hq : b < q) : AWs B Bm b q w W' := by
  obtain ⟨ht, hG, B1, n, c0, c1, c2, c3, u0, u1, u2, u3, B2⟩ := h
  exact ⟨ht', grown_trans hG hg, B1.gne hg (by omega), n, c0, c1, c2, c3, u0, u1, u2, u3, B2.gne hg (by omega)⟩
theorem AWs.store {B Bm b q : Nat} {w W : World} {j : Nat} {u : Int} (hu : U64 u) (hj : 1 ≤ j ∧ j ≤ 4) (hq : w.heap.size ≤ q) (hB : B ≤ q) (h : AWs B Bm b q w W) : AWs B Bm b q w (W.setCell ⟨q + 1, j, none⟩ (.int .u64 u)) := by
  obtain ⟨ht, hG, B1, n, c0, c1, c2, c3, u0, u1, u2, u3, B2⟩ := h
  have t := ht.setc (p := ⟨q + 1, j, none⟩) (v := .int .u64 u) (by show B ≤ q + 1; omega)
  have g := grown_setCell hG (p := ⟨q + 1, j, none⟩) (.inr (by show w.heap.size ≤ q + 1; omega)) (.int .u64 u)
  have b1 := B1.setne (a := ⟨q + 1, j, none⟩) (v := .int .u64 u) (by show q ≠ q + 1; omega)
  obtain rfl | rfl | rfl | rfl : j = 1 ∨ j = 2 ∨ j = 3 ∨ j = 4 := by omega
  · exact ⟨t, g, b1, n, u, c1, c2, c3, hu, u1, u2, u3, B2.set rfl⟩
  · exact ⟨t, g, b1, n, c0, u, c2, c3, u0, hu, u2, u3, B2.set rfl⟩
  · exact ⟨t, g, b1, n, c0, c1, u, c3, u0, u1, hu, u3, B2.set rfl⟩
  · exact ⟨t, g, b1, n, c0, c1, c2, u, u0, u1, u2, hu, B2.set rfl⟩
theorem AWs.at {B Bm b q m : Nat} {w W : World} (h : AWs B Bm b q w W) (hm : m ≤ 3) : ∃ c, W.cell? ⟨q + 1, 1 + m, none⟩ = some (.int .u64 c) ∧ W.frozen? ⟨q + 1, 1 + m, none⟩ = false ∧ q + 1 < W.heap.size ∧ B ≤ W.heap.size := by
  obtain ⟨ht, hG, B1, n, c0, c1, c2, c3, u0, u1, u2, u3, B2⟩ := h
  obtain ⟨B2, B2c, B2f, B2l⟩ := Bx.of B2
  obtain rfl | rfl | rfl | rfl : m = 0 ∨ m = 1 ∨ m = 2 ∨ m = 3 := by omega
  all_goals exact ⟨_, B2c _, B2f _, B2l, ht.leB⟩
theorem four_at {W : World} {g r : Nat} (h : HB W g #[.int .u64 0, .int .u64 1, .int .u64 9223372036854775808, .int .u64 18446744073709551615]) (hr : (r : Int) < 4) : ∃ x, W.cell? ⟨g, r, none⟩ = some (.int .u64 x) ∧ U64 x := by
  obtain ⟨B2, B2c, B2f, B2l⟩ := Bx.of h
  obtain rfl | rfl | rfl | rfl : r = 0 ∨ r = 1 ∨ r = 2 ∨ r = 3 := by omega
  all_goals exact ⟨_, B2c _, by decide, by decide⟩
theorem AWs.over {B Bm b q : Nat} {w W : World} {n' : Bool} {d0 d1 d2 d3 : Int} (v0 : U64 d0) (v1 : U64 d1) (v2 : U64 d2) (v3 : U64 d3) (hq : w.heap.size ≤ q) (hB : B ≤ q) (h : AWs B Bm b q w W) :
    AWs B Bm b q w (((((W.setCell ⟨q + 1, 0, none⟩ (.bool n')).setCell ⟨q + 1, 1, none⟩ (.int .u64 d0)).setCell ⟨q + 1, 2, none⟩ (.int .u64 d1)).setCell ⟨q + 1, 3, none⟩ (.int .u64 d2)).setCell ⟨q + 1, 4, none⟩ (.int .u64 d3)) := by
  obtain ⟨ht, hG, B1, n, c0, c1, c2, c3, u0, u1, u2, u3, B2⟩ := h
  have hp : ∀ (j : Nat), w.heap.size ≤ (⟨q + 1, j, none⟩ : Addr).block := fun j => by show w.heap.size ≤ q + 1; omega
  have hp' : ∀ (j : Nat), B ≤ (⟨q + 1, j, none⟩ : Addr).block := fun j => by show B ≤ q + 1; omega
  have hn : ∀ (j : Nat), q ≠ (⟨q + 1, j, none⟩ : Addr).block := fun j => by show q ≠ q + 1; omega
  exact ⟨((((ht.setc (hp' _)).setc (hp' _)).setc (hp' _)).setc (hp' _)).setc (hp' _),
    grown_setCell (grown_setCell (grown_setCell (grown_setCell (grown_setCell hG (.inr (hp _)) _) (.inr (hp _)) _) (.inr (hp _)) _) (.inr (hp _)) _) (.inr (hp _)) _,
    ((((B1.setne (hn _)).setne (hn _)).setne (hn _)).setne (hn _)).setne (hn _), n', d0, d1, d2, d3, v0, v1, v2, v3, HB.over5 (HN.of5 B2)⟩
set_option maxHeartbeats 4000000 in
set_option maxRecDepth 100000 in
theorem twide_any {B Bm : Nat} (b : Nat) (w : World) (ht : TapeOk B Bm w b) :
    Calls Try.prog 15 #[.pointer (some ⟨b, 0, none⟩)] w (WPost B Bm b w) := by
  have hG := grown_refl w (some b)
  have hBl := ht.ltB
  have hBs := ht.leB
  go_enter Try.func15, Try.ntmps15
  (repeat' (first | (go_big_may; (first | (go_at_call 18; refine (next_any (B := B) (Bm := Bm) b 5 ⟨by decide, by decide⟩ _ (by (repeat' (first | (with_reducible exact ht) | (with_reducible refine TapeOk.alloc ?_ _) | (with_reducible refine TapeOk.drew ?_) | (with_reducible refine TapeOk.setc (by first | go_size | (dsimp only; omega)) ?_))))).mono ?_; rintro e w' ⟨k, ⟨k1, k2, k3⟩, rfl, ht', hg⟩; have N1 := Bx.of (HB.gne (b := w.heap.size) (cs := #[.bool false, .int .u64 0, .int .u64 0, .int .u64 0, .int .u64 0]) (by (repeat' (first | (with_reducible assumption) | ((with_reducible refine HB.new _ _ _ ?_) <;> (go_size; done)) | (with_reducible refine HB.old (by go_size) ?_) | (with_reducible refine HB.drew ?_) | (with_reducible refine HB.over5 ?_) | (with_reducible refine HB.over4 ?_) | (with_reducible refine HB.setne (by first | go_size | (dsimp only; omega)) ?_) | (with_reducible refine HN.set ?_) | (with_reducible refine HN.setne (by first | go_size | (dsimp only; omega)) ?_) | (with_reducible refine HN.drew ?_) | (with_reducible refine HN.old (by go_size) ?_) | (with_reducible exact HN.of5 (by assumption)) | (with_reducible exact HN.new5 _ _ (by go_size)) | (with_reducible exact HN.of4 (by assumption)) | (with_reducible exact HN.new4 _ _ (by go_size))))) hg (by first | omega | (go_size; done))); have N2 := Bx.of (HB.gne (b := w.heap.size + 1) (cs := #[.bool false, .int .u64 0, .int .u64 0, .int .u64 0, .int .u64 0]) (by (repeat' (first | (with_reducible assumption) | ((with_reducible refine HB.new _ _ _ ?_) <;> (go_size; done)) | (with_reducible refine HB.old (by go_size) ?_) | (with_reducible refine HB.drew ?_) | (with_reducible refine HB.over5 ?_) | (with_reducible refine HB.over4 ?_) | (with_reducible refine HB.setne (by first | go_size | (dsimp only; omega)) ?_) | (with_reducible refine HN.set ?_) | (with_reducible refine HN.setne (by first | go_size | (dsimp only; omega)) ?_) | (with_reducible refine HN.drew ?_) | (with_reducible refine HN.old (by go_size) ?_) | (with_reducible exact HN.of5 (by assumption)) | (with_reducible exact HN.new5 _ _ (by go_size)) | (with_reducible exact HN.of4 (by assumption)) | (with_reducible exact HN.new4 _ _ (by go_size))))) hg (by first | omega | (go_size; done))); have hG' : w.grownBy w' (some (b)) := grown_trans (by (repeat' (first | (with_reducible exact hG) | (with_reducible refine grown_alloc ?_ _) | (with_reducible refine grown_drew ?_) | (with_reducible refine grown_setCell ?_ (.inr (by first | go_size | (dsimp only; omega))) _)))) hg; have hsz := hg.size; clear ht hG; have ht := ht'; have hG := hG'; clear ht' hG'; (try simp only [World.size_alloc, World.size_setCell, World.size_drew] at hsz); clear hg; (try clear B1 B1c B1f B1l); obtain ⟨B1, B1c, B1f, B1l⟩ := N1; (try clear B2 B2c B2f B2l); obtain ⟨B2, B2c, B2f, B2l⟩ := N2))) | go_values | go_skip | go_guarded | go_step | go_upon | (simp only [Int.not_lt, Int.not_le] at *; go_simp) | (go_values <;> (try go_simp)) | (go_ite <;> go_prune <;> (try go_simp)) | (split <;> (first | (rename_i hx; exact (hx _ rfl).elim) | go_prune))))
  have k4 := k2 (by decide)
  clear k2 k3
  go_loopw [4] (fun i wr => ∃ k : Nat, i = .int .i64 k ∧ k ≤ 4 ∧ AWs B Bm b w.heap.size w wr) (fun i _ => (intOf i).toNat)
  case atStart => exact ⟨k.toNat, by rw [Int.toNat_of_nonneg k1], by omega, ht, hG, B1, _, 0, 0, 0, 0, ⟨by decide, by decide⟩, ⟨by decide, by decide⟩, ⟨by decide, by decide⟩, ⟨by decide, by decide⟩, B2⟩
  case round =>
    clear ht hG B1 B1c B1f B1l B2 B2c B2f B2l k1 k4
    obtain ⟨k, rfl, hk, hA'⟩ := hrel
    have hA := hA'
    by_cases h0 : k = 0
    · subst h0
      clear hA; have hA := hA'; clear hA'; have hA2 := hA; obtain ⟨ht, hG, B1, n, c0, c1, c2, c3, u0, u1, u2, u3, B2⟩ := hA2; obtain ⟨B1, B1c, B1f, B1l⟩ := Bx.of B1; obtain ⟨B2, B2c, B2f, B2l⟩ := Bx.of B2
      (repeat' (first | (go_big_may; (first | (go_at_call 49; refine (bool_any (B := B) (Bm := Bm) b _ (by decide) (by decide) _ (AWs.tape (q := w.heap.size) (w := w) (by (repeat' (first | (with_reducible exact hA) | (with_reducible refine AWs.alloc ?_ _) | (with_reducible refine AWs.drew ?_) | (with_reducible refine AWs.over (lb0_in _) (lb1_in _) (lb2_in _) (lb3_in _) (by omega) (by omega) ?_) | (with_reducible refine AWs.store (by assumption) (by omega) (by omega) (by omega) ?_)))))).mono ?_; rintro e w' ⟨r, rfl, ht', hg⟩; have hA' : AWs B Bm b w.heap.size w w' := AWs.gne (by (repeat' (first | (with_reducible exact hA) | (with_reducible refine AWs.alloc ?_ _) | (with_reducible refine AWs.drew ?_) | (with_reducible refine AWs.over (lb0_in _) (lb1_in _) (lb2_in _) (lb3_in _) (by omega) (by omega) ?_) | (with_reducible refine AWs.store (by assumption) (by omega) (by omega) (by omega) ?_)))) hg ht' (by omega); clear hg ht'; clear ht hG B1 B1c B1f B1l B2 B2c B2f B2l u0 u1 u2 u3; clear hA; have hA := hA'; clear hA'; have hA2 := hA; obtain ⟨ht, hG, B1, n, c0, c1, c2, c3, u0, u1, u2, u3, B2⟩ := hA2; obtain ⟨B1, B1c, B1f, B1l⟩ := Bx.of B1; obtain ⟨B2, B2c, B2f, B2l⟩ := Bx.of B2) | (go_at_call 17; refine (int_any (B := B) (Bm := Bm) b _ (AWs.tape (q := w.heap.size) (w := w) (by (repeat' (first | (with_reducible exact hA) | (with_reducible refine AWs.alloc ?_ _) | (with_reducible refine AWs.drew ?_) | (with_reducible refine AWs.over (lb0_in _) (lb1_in _) (lb2_in _) (lb3_in _) (by omega) (by omega) ?_) | (with_reducible refine AWs.store (by assumption) (by omega) (by omega) (by omega) ?_)))))).mono ?_; rintro e w' ⟨z, hz, rfl, ht', hg⟩; have hA' : AWs B Bm b w.heap.size w w' := AWs.gne (by (repeat' (first | (with_reducible exact hA) | (with_reducible refine AWs.alloc ?_ _) | (with_reducible refine AWs.drew ?_) | (with_reducible refine AWs.over (lb0_in _) (lb1_in _) (lb2_in _) (lb3_in _) (by omega) (by omega) ?_) | (with_reducible refine AWs.store (by assumption) (by omega) (by omega) (by omega) ?_)))) hg ht' (by omega); clear hg ht'; clear ht hG B1 B1c B1f B1l B2 B2c B2f B2l u0 u1 u2 u3; clear hA; have hA := hA'; clear hA'; have hA2 := hA; obtain ⟨ht, hG, B1, n, c0, c1, c2, c3, u0, u1, u2, u3, B2⟩ := hA2; obtain ⟨B1, B1c, B1f, B1l⟩ := Bx.of B1; obtain ⟨B2, B2c, B2f, B2l⟩ := Bx.of B2) | (go_at_call 16; refine (rOf_any _ hz _).mono ?_; rintro e w' ⟨rfl, hbw⟩; have hA' : AWs B Bm b w.heap.size w w' := AWs.bel (by (repeat' (first | (with_reducible exact hA) | (with_reducible refine AWs.alloc ?_ _) | (with_reducible refine AWs.drew ?_) | (with_reducible refine AWs.over (lb0_in _) (lb1_in _) (lb2_in _) (lb3_in _) (by omega) (by omega) ?_) | (with_reducible refine AWs.store (by assumption) (by omega) (by omega) (by omega) ?_)))) hbw; clear hbw; clear ht hG B1 B1c B1f B1l B2 B2c B2f B2l u0 u1 u2 u3; clear hA; have hA := hA'; clear hA'; have hA2 := hA; obtain ⟨ht, hG, B1, n, c0, c1, c2, c3, u0, u1, u2, u3, B2⟩ := hA2; obtain ⟨B1, B1c, B1f, B1l⟩ := Bx.of B1; obtain ⟨B2, B2c, B2f, B2l⟩ := Bx.of B2) | (go_at_call 48; refine (rneg_any n c0 c1 c2 c3 u0 u1 u2 u3 _).mono ?_; rintro e w' ⟨rfl, hbw⟩; generalize -(wv n c0 c1 c2 c3) = zz; have hA' : AWs B Bm b w.heap.size w w' := AWs.bel (by (repeat' (first | (with_reducible exact hA) | (with_reducible refine AWs.alloc ?_ _) | (with_reducible refine AWs.drew ?_) | (with_reducible refine AWs.over (lb0_in _) (lb1_in _) (lb2_in _) (lb3_in _) (by omega) (by omega) ?_) | (with_reducible refine AWs.store (by assumption) (by omega) (by omega) (by omega) ?_)))) hbw; clear hbw; clear ht hG B1 B1c B1f B1l B2 B2c B2f B2l u0 u1 u2 u3; clear hA; have hA := hA'; clear hA'; have hA2 := hA; obtain ⟨ht, hG, B1, n, c0, c1, c2, c3, u0, u1, u2, u3, B2⟩ := hA2; obtain ⟨B1, B1c, B1f, B1l⟩ := Bx.of B1; obtain ⟨B2, B2c, B2f, B2l⟩ := Bx.of B2))) | go_values | go_skip | go_guarded | go_step | go_upon | (simp only [Int.not_lt, Int.not_le] at *; go_simp) | (go_values <;> (try go_simp)) | (go_ite <;> go_prune <;> (try go_simp)) | (split <;> (first | (rename_i hx; exact (hx _ rfl).elim) | go_prune))))
      all_goals first | (refine bodyPost_ret (v := WE zz) ?_ rfl ⟨_, _, _, _, _, lb0_in _, lb1_in _, lb2_in _, lb3_in _, rfl, by (repeat' (first | (with_reducible exact ht) | (with_reducible refine TapeOk.alloc ?_ _) | (with_reducible refine TapeOk.drew ?_) | (with_reducible refine TapeOk.setc (by first | go_size | (dsimp only; omega)) ?_))), by (repeat' (first | (with_reducible exact hG) | (with_reducible refine grown_alloc ?_ _) | (with_reducible refine grown_drew ?_) | (with_reducible refine grown_setCell ?_ (.inr (by first | go_size | (dsimp only; omega))) _)))⟩; simp [results, Try.results15, go_sem, B1c, B1f, B1l]; done) | (refine bodyPost_ret (v := WV n c0 c1 c2 c3) ?_ rfl ⟨_, _, _, _, _, u0, u1, u2, u3, rfl, by (repeat' (first | (with_reducible exact ht) | (with_reducible refine TapeOk.alloc ?_ _) | (with_reducible refine TapeOk.drew ?_) | (with_reducible refine TapeOk.setc (by first | go_size | (dsimp only; omega)) ?_))), by (repeat' (first | (with_reducible exact hG) | (with_reducible refine grown_alloc ?_ _) | (with_reducible refine grown_drew ?_) | (with_reducible refine grown_setCell ?_ (.inr (by first | go_size | (dsimp only; omega))) _)))⟩; simp [results, Try.results15, go_sem, B1c, B1f, B1l]; done)
    · obtain ⟨m, rfl⟩ : ∃ m, k = m + 1 := ⟨k - 1, by omega⟩
      have hm : m ≤ 3 := by omega
      have e1 : ((m + 1 : Nat) : Int) = (m : Int) + 1 := by omega
      simp only [e1]
      clear hA' h0 hk
      obtain ⟨c, hc, hf, hl, hlB⟩ := hA.at hm
      have E1 := hid e1
      clear e1
      (repeat' (first | (go_big_may; (first | (go_at_call 35; refine (word_any (B := B) (Bm := Bm) b _ (AWs.tape (q := w.heap.size) (w := w) (by (repeat' (first | (with_reducible exact hA) | (with_reducible refine AWs.alloc ?_ _) | (with_reducible refine AWs.drew ?_) | (with_reducible refine AWs.over (lb0_in _) (lb1_in _) (lb2_in _) (lb3_in _) (by omega) (by omega) ?_) | (with_reducible refine AWs.store (by assumption) (by omega) (by omega) (by omega) ?_)))))).mono ?_; rintro e w' ⟨u, hu, rfl, ht', hg⟩; have hA' : AWs B Bm b w.heap.size w w' := AWs.gne (by (repeat' (first | (with_reducible exact hA) | (with_reducible refine AWs.alloc ?_ _) | (with_reducible refine AWs.drew ?_) | (with_reducible refine AWs.over (lb0_in _) (lb1_in _) (lb2_in _) (lb3_in _) (by omega) (by omega) ?_) | (with_reducible refine AWs.store (by assumption) (by omega) (by omega) (by omega) ?_)))) hg ht' (by omega); clear hg ht' hc hf hl hlB hA; have hA := hA'; clear hA'; obtain ⟨c, hc, hf, hl, hlB⟩ := hA.at hm) | (go_at_call 49; refine (bool_any (B := B) (Bm := Bm) b 4 (by decide) (by decide) _ (AWs.tape (q := w.heap.size) (w := w) (by (repeat' (first | (with_reducible exact hA) | (with_reducible refine AWs.alloc ?_ _) | (with_reducible refine AWs.drew ?_) | (with_reducible refine AWs.over (lb0_in _) (lb1_in _) (lb2_in _) (lb3_in _) (by omega) (by omega) ?_) | (with_reducible refine AWs.store (by assumption) (by omega) (by omega) (by omega) ?_)))))).mono ?_; rintro e w' ⟨r, rfl, ht', hg⟩; have hA' : AWs B Bm b w.heap.size w w' := AWs.gne (by (repeat' (first | (with_reducible exact hA) | (with_reducible refine AWs.alloc ?_ _) | (with_reducible refine AWs.drew ?_) | (with_reducible refine AWs.over (lb0_in _) (lb1_in _) (lb2_in _) (lb3_in _) (by omega) (by omega) ?_) | (with_reducible refine AWs.store (by assumption) (by omega) (by omega) (by omega) ?_)))) hg ht' (by omega); clear hg ht' hc hf hl hlB hA; have hA := hA'; clear hA'; obtain ⟨c, hc, hf, hl, hlB⟩ := hA.at hm) | (go_at_call 18; refine (next_any (B := B) (Bm := Bm) b 4 ⟨by decide, by decide⟩ _ (AWs.tape (q := w.heap.size) (w := w) (by (repeat' (first | (with_reducible exact hA) | (with_reducible refine AWs.alloc ?_ _) | (with_reducible refine AWs.drew ?_) | (with_reducible refine AWs.over (lb0_in _) (lb1_in _) (lb2_in _) (lb3_in _) (by omega) (by omega) ?_) | (with_reducible refine AWs.store (by assumption) (by omega) (by omega) (by omega) ?_)))))).mono ?_; rintro e w' ⟨r, ⟨r1, r2, r3⟩, rfl, ht', hg⟩; have r4 := r2 (by decide); clear r2 r3; obtain ⟨r, rfl⟩ := Int.eq_ofNat_of_zero_le r1; clear r1; obtain ⟨x, hx, hxu⟩ := four_at (HB.gne (HB.new _ _ _ rfl) hg (by omega)) r4; have hA' : AWs B Bm b w.heap.size w w' := AWs.gne (by (repeat' (first | (with_reducible exact hA) | (with_reducible refine AWs.alloc ?_ _) | (with_reducible refine AWs.drew ?_) | (with_reducible refine AWs.over (lb0_in _) (lb1_in _) (lb2_in _) (lb3_in _) (by omega) (by omega) ?_) | (with_reducible refine AWs.store (by assumption) (by omega) (by omega) (by omega) ?_)))) hg ht' (by omega); clear hg ht' hc hf hl hlB hA; have hA := hA'; clear hA'; obtain ⟨c, hc, hf, hl, hlB⟩ := hA.at hm))) | go_values | go_skip | go_guarded | go_step | go_upon | (simp only [Int.not_lt, Int.not_le] at *; go_simp) | (go_values <;> (try go_simp)) | (go_ite <;> go_prune <;> (try go_simp)) | (split <;> (first | (rename_i hx; exact (hx _ rfl).elim) | go_prune))))
      all_goals go_roundw
      all_goals first
        | (case rel => exact ⟨m, rfl, by omega, by (repeat' (first | (with_reducible exact hA) | (with_reducible refine AWs.alloc ?_ _) | (with_reducible refine AWs.drew ?_) | (with_reducible refine AWs.over (lb0_in _) (lb1_in _) (lb2_in _) (lb3_in _) (by omega) (by omega) ?_) | (with_reducible refine AWs.store (by assumption) (by omega) (by omega) (by omega) ?_)))⟩)
        | (case measure => (simp [intOf]; try omega))
end Go.Proofs.Ytlanoclibdhpmaa

/- LawT: A law's frame where a tape comes behind boxed arguments. -/
namespace Go.Proofs.Ytlanoclibdhpmaa
open Go.ChangeShapes Go.WideShapes Go.ChangeAt Go.RowKit
set_option linter.unusedVariables false
set_option linter.unusedSimpArgs false
theorem SlZ.below {W W' : World} {k : IntKind} {v : Value} {zs : List Int} (h : SlZ W k v zs) (hb : Below W.heap.size W W') : SlZ W' k v zs := by
  obtain ⟨a, len, cap, rfl, h1, h2, h3, h4, h5⟩ := h
  refine ⟨a, len, cap, rfl, h1, h2, h3, h4, fun hl => ?_⟩
  obtain ⟨b, off, rfl, hlt, hc⟩ := h5 hl
  exact ⟨b, off, rfl, Nat.lt_of_lt_of_le hlt hb.size, fun i hi => (hb.cell hlt).trans (hc i hi)⟩
theorem next_in {B Bm : Nat} (b : Nat) (n : Int) (h1 : 1 ≤ n) (h2 : n ≤ 1000000) (w : World) (ht : TapeOk B Bm w b) :
    Calls Try.prog 18 #[.pointer (some ⟨b, 0, none⟩), .int .i64 n] w (TPost B Bm .i64 b w fun r => 0 ≤ r ∧ r < n) :=
  (next_any b n ⟨by omega, by omega⟩ w ht).mono fun e w' ⟨r, ⟨r1, r2, r3⟩, he, h⟩ => ⟨r, ⟨r1, r2 h1⟩, he, h⟩
end Go.Proofs.Ytlanoclibdhpmaa

/- SxV: A symbolic run: Wides and fractions as atoms; tapes; pairs of slices. -/
namespace Go.Proofs.Ytlanoclibdhpmaa
open Go Go.RowKit
set_option linter.unusedVariables false
set_option linter.unusedSimpArgs false
/-- The Wide of an integer, and the Ratio of two, as names. -/
def WX (z : Int) : Value := WE z
def RX (p q : Int) : Value := .agg #[.bool (sg p), .int .u64 (lb0 (ab p)), .int .u64 (lb1 (ab p)), .int .u64 (lb2 (ab p)), .int .u64 (lb3 (ab p)), .bool (sg q), .int .u64 (lb0 (ab q)), .int .u64 (lb1 (ab q)), .int .u64 (lb2 (ab q)), .int .u64 (lb3 (ab q))]
/-- The negative 0. -/
def NZ : Value := WV true 0 0 0 0
theorem IsW.x {z : Int} (h : Fits z) : IsW (WX z) z := IsW.we h
theorem sg_ab (z : Int) : sg (ab z) = false := by unfold sg; exact decide_eq_false (by have := ab_nonneg z; omega)
namespace Sx
variable {C : Cx} {S : St} {K : St → Prop} {d : Option Nat}
/-- The cells of a Wide. -/
abbrev wc (z : Int) : List Value := [.bool (sg z), .int .u64 (lb0 (ab z)), .int .u64 (lb1 (ab z)), .int .u64 (lb2 (ab z)), .int .u64 (lb3 (ab z))]
theorem x_foldR (p q : Int) : Value.agg [.bool (sg p), .int .u64 (lb0 (ab p)), .int .u64 (lb1 (ab p)), .int .u64 (lb2 (ab p)), .int .u64 (lb3 (ab p)), .bool (sg q), .int .u64 (lb0 (ab q)), .int .u64 (lb1 (ab q)), .int .u64 (lb2 (ab q)), .int .u64 (lb3 (ab q))].toArray = RX p q := rfl
theorem x_foldW (z : Int) : Value.agg [.bool (sg z), .int .u64 (lb0 (ab z)), .int .u64 (lb1 (ab z)), .int .u64 (lb2 (ab z)), .int .u64 (lb3 (ab z))].toArray = WX z := rfl
theorem x_foldA (z : Int) : Value.agg [.bool false, .int .u64 (lb0 (ab z)), .int .u64 (lb1 (ab z)), .int .u64 (lb2 (ab z)), .int .u64 (lb3 (ab z))].toArray = WX (ab z) := by
  rw [← x_foldW, ab_ab, sg_ab]
theorem x_fold0 : Value.agg [.bool false, .int .u64 0, .int .u64 0, .int .u64 0, .int .u64 0].toArray = WX 0 := rfl
theorem x_foldR0 : Value.agg [.bool false, .int .u64 0, .int .u64 0, .int .u64 0, .int .u64 0, .bool false, .int .u64 0, .int .u64 0, .int .u64 0, .int .u64 0].toArray = RX 0 0 := rfl
theorem x_foldN : Value.agg [.bool true, .int .u64 0, .int .u64 0, .int .u64 0, .int .u64 0].toArray = NZ := rfl
theorem x_cN : cellsO true (some (.v NZ)) = some [.bool true, .int .u64 0, .int .u64 0, .int .u64 0, .int .u64 0] := rfl
theorem x_vN : cellsV (some (.v NZ)) = some [.bool true, .int .u64 0, .int .u64 0, .int .u64 0, .int .u64 0] := rfl
theorem x_fN0 : fdS false 1 0 (some (.v NZ)) = some (True, .bool true) := rfl
theorem x_csg1 {z : Int} {p q : St → Prop} (h : z < 0) : condT (sg z) p q S = p S := by unfold sg; rw [decide_eq_true h]; rfl
theorem x_csg0 {z : Int} {p q : St → Prop} (h : ¬ z < 0) : condT (sg z) p q S = q S := by unfold sg; rw [decide_eq_false h]; rfl
theorem x_gsg1 {z : Int} {m : M} {w : Bool} (h : z < 0) : gdT (sg z) w C m d K S = gdT true w C m d K S := by unfold sg; rw [decide_eq_true h]
theorem x_gsg0 {z : Int} {m : M} {w : Bool} (h : ¬ z < 0) : gdT (sg z) w C m d K S = gdT false w C m d K S := by unfold sg; rw [decide_eq_false h]
theorem x_psg1 {z : Int} {f g : Option SV} (h : z < 0) : pickS f g (some (.v (.bool (sg z)))) = sv1 f := by unfold sg; rw [decide_eq_true h]; rfl
theorem x_psg0 {z : Int} {f g : Option SV} (h : ¬ z < 0) : pickS f g (some (.v (.bool (sg z)))) = sv1 g := by unfold sg; rw [decide_eq_false h]; rfl
theorem x_cW (z : Int) : cellsO true (some (.v (WX z))) = some [.bool (sg z), .int .u64 (lb0 (ab z)), .int .u64 (lb1 (ab z)), .int .u64 (lb2 (ab z)), .int .u64 (lb3 (ab z))] := rfl
theorem x_cR (p q : Int) : cellsO true (some (.v (RX p q))) = some [.bool (sg p), .int .u64 (lb0 (ab p)), .int .u64 (lb1 (ab p)), .int .u64 (lb2 (ab p)), .int .u64 (lb3 (ab p)), .bool (sg q), .int .u64 (lb0 (ab q)), .int .u64 (lb1 (ab q)), .int .u64 (lb2 (ab q)), .int .u64 (lb3 (ab q))] := rfl
theorem x_vW (z : Int) : cellsV (some (.v (WX z))) = some [.bool (sg z), .int .u64 (lb0 (ab z)), .int .u64 (lb1 (ab z)), .int .u64 (lb2 (ab z)), .int .u64 (lb3 (ab z))] := rfl
theorem x_vR (p q : Int) : cellsV (some (.v (RX p q))) = some [.bool (sg p), .int .u64 (lb0 (ab p)), .int .u64 (lb1 (ab p)), .int .u64 (lb2 (ab p)), .int .u64 (lb3 (ab p)), .bool (sg q), .int .u64 (lb0 (ab q)), .int .u64 (lb1 (ab q)), .int .u64 (lb2 (ab q)), .int .u64 (lb3 (ab q))] := rfl
theorem x_fW0 (z : Int) : fdS false 1 0 (some (.v (WX z))) = some (True, .bool (sg z)) := rfl
theorem x_fR0 (p q : Int) : fdS true 5 0 (some (.v (RX p q))) = some (True, WX p) := rfl
theorem x_fR5 (p q : Int) : fdS true 5 5 (some (.v (RX p q))) = some (True, WX q) := rfl
theorem qxE : type_of% @x_foldR ∧ type_of% @x_foldW ∧ type_of% @x_foldA ∧ type_of% @x_fold0 ∧ type_of% @x_foldR0 ∧ type_of% @x_foldN ∧ type_of% @x_cN ∧ type_of% @x_vN ∧ type_of% @x_fN0 ∧ type_of% @x_csg1 ∧ type_of% @x_csg0 ∧ type_of% @x_gsg1 ∧ type_of% @x_gsg0 ∧ type_of% @x_psg1 ∧ type_of% @x_psg0 ∧ type_of% @x_cW ∧ type_of% @x_cR ∧ type_of% @x_vW ∧ type_of% @x_vR ∧ type_of% @x_fW0 ∧ type_of% @x_fR0 ∧ type_of% @x_fR5 :=
  ⟨@x_foldR, @x_foldW, @x_foldA, @x_fold0, @x_foldR0, @x_foldN, @x_cN, @x_vN, @x_fN0, @x_csg1, @x_csg0, @x_gsg1, @x_gsg0, @x_psg1, @x_psg0, @x_cW, @x_cR, @x_vW, @x_vR, @x_fW0, @x_fR0, @x_fR5⟩
theorem asks_r2 {f : FuncId} {l : List Value} {L : List Kn} {ws vs : List Int} (he : ∀ (l : Array Value) W, (callFunc f l).run C.P W = .ok (.enter f l) W) (hT : S.T = kX C.w0.heap.size L)
    (h : ∀ W, Below C.w0.heap.size C.w0 W → (∀ k ∈ L, k.ok C.w0.heap.size W) → Calls C.P f l.toArray W fun e w' => ∃ u v, e = .returned (.tuple #[u, v]) ∧ SlF w' W.heap.size u ws ∧ SlF w' W.heap.size v vs ∧ Below W.heap.size W w')
    (hk : ∀ a cap b cbp, Shp a ws.length cap → Shp b vs.length cbp → K (St.put ⟨S.n, S.E, S.H, kX C.w0.heap.size (.r (.slice a ws.length cap) ws :: .r (.slice b vs.length cbp) vs :: L)⟩ d (.v (.tuple #[.slice a ws.length cap, .slice b vs.length cbp])))) : asks C f l d K S := by
  refine asks_T (ι := {x : (Option Addr × Nat) × (Option Addr × Nat) // Shp x.1.1 ws.length x.1.2 ∧ Shp x.2.1 vs.length x.2.2}) (fun x => .tuple #[.slice x.1.1.1 ws.length x.1.1.2, .slice x.1.2.1 vs.length x.1.2.2]) (fun x => kX C.w0.heap.size (.r (.slice x.1.1.1 ws.length x.1.1.2) ws :: .r (.slice x.1.2.1 vs.length x.1.2.2) vs :: L)) (fun W hW hok hbs => givesT_calls he (fun i => kX_stab C _) ?_) (fun x => hk _ _ _ _ x.2.1 x.2.2)
  rw [hT] at hok
  refine (h W hW hok).mono fun e w' ⟨u, v, h1, h2, h3, h4⟩ => ?_
  obtain ⟨a, cap, rfl, hs⟩ := h2.1.shp
  obtain ⟨b, cbp, rfl, hs'⟩ := h3.1.shp
  have hok2 : (Kn.r (.slice a ws.length cap) ws).ok C.w0.heap.size w' := Kn.ok.base (k := .r _ ws) h2 hW.size (fun _ h => by cases h)
  have hok3 : (Kn.r (.slice b vs.length cbp) vs).ok C.w0.heap.size w' := Kn.ok.base (k := .r _ vs) h3 hW.size (fun _ h => by cases h)
  have hge : ∀ c ∈ rbs (.slice a ws.length cap), W.heap.size ≤ c := fun c hc => (Kn.ok.lt (k := .r (.slice a ws.length cap) ws) h2 c hc).1
  have hge' : ∀ c ∈ rbs (.slice b vs.length cbp), W.heap.size ≤ c := fun c hc => (Kn.ok.lt (k := .r (.slice b vs.length cbp) vs) h3 c hc).1
  refine ⟨⟨((a, cap), (b, cbp)), hs, hs'⟩, h1, ⟨h4.os, h4.tape, h4.output, h4.size, fun i hi _ => h4.block i hi⟩, ?_, ?_⟩
  · intro k hk
    rcases List.mem_cons.1 hk with rfl | hk
    · exact hok2
    · rcases List.mem_cons.1 hk with rfl | hk
      · exact hok3
      · exact (hok k hk).below h4
  · intro c hc
    obtain ⟨k, hk, hc⟩ := kX_bs.1 hc
    rcases List.mem_cons.1 hk with rfl | hk
    · exact ⟨.inr (hge c hc), (hok2.lt c hc).2⟩
    · rcases List.mem_cons.1 hk with rfl | hk
      · exact ⟨.inr (hge' c hc), (hok3.lt c hc).2⟩
      · exact ⟨.inl (by rw [hT]; exact kX_bs.2 ⟨k, hk, hc⟩), Nat.lt_of_lt_of_le ((hok k hk).lt c hc).2 h4.size⟩
/-- Block tb holds a tape whose numbers are the caller's. -/
def tK (tb : Nat) : KnG where
  bs := [tb]
  ok n W := n ≤ tb ∧ TapeOk (tb + 1) n W tb
  lt := fun {n W} h b hb => by
    rw [List.mem_singleton.1 hb]
    exact ⟨h.1, h.2.lt⟩
  keep := fun {n W W'} h hs hb ho => by
    obtain ⟨h0, a, len, cap, k, h1, h2, h3, h4, h5, h6, h7, h8⟩ := h
    have ht := hb tb (List.mem_singleton.2 rfl)
    refine ⟨h0, a, len, cap, k, h1, Nat.le_trans h2 hs, (World.cell?_of_block (a := ⟨tb, 0, none⟩) ht).trans h3, (World.cell?_of_block (a := ⟨tb, 1, none⟩) ht).trans h4, (World.frozen?_of_block (a := ⟨tb, 1, none⟩) ht).trans h5, h6, h7, fun hl => ?_⟩
    obtain ⟨bb, off, e, hne, hlt, hlm, hc⟩ := h8 hl
    refine ⟨bb, off, e, hne, hlt, hlm, fun i hi => ?_⟩
    obtain ⟨x, hx, hix⟩ := hc i hi
    exact ⟨x, (World.cell?_of_block (a := ⟨bb, off + i, none⟩) (ho bb hlm (by omega))).trans hx, hix⟩
/-- A new tape of the caller's numbers. -/
theorem asks_new {L : List Kn} {zs : List Int} {a : Option Addr} {len cap : Nat} (hP : C.P = Try.prog) (hT : S.T = kX C.w0.heap.size L) (h0 : SlZ C.w0 .i64 (.slice a len cap) zs) (he : ∀ (l : Array Value) W, (callFunc 14 l).run Try.prog W = .ok (.enter 14 l) W)
    (hk : ∀ tb, tb ∉ S.T.bs → K (St.put ⟨S.n, S.E, S.H, kX C.w0.heap.size (.g (tK tb) :: L)⟩ d (.v (.pointer (some ⟨tb, 0, none⟩))))) : asks C 14 [.slice a len cap] d K S := by
  refine asks_T (ι := {x : Nat // x ∉ S.T.bs}) (fun x => .pointer (some ⟨x.1, 0, none⟩)) (fun x => kX C.w0.heap.size (.g (tK x.1) :: L)) (fun W hW hok hbs => givesT_calls (by rw [hP]; exact he) (fun i => kX_stab C _) ?_) (fun x => hk _ x.2)
  rw [hT] at hok
  rw [hP]
  refine (new_any a len cap W).mono fun e w' ⟨he, hw⟩ => ?_
  subst hw
  have hb : Below W.heap.size W (W.alloc (.cells #[.slice a len cap, .int .i64 0] 70)) := (Below.refl _ _).alloc (Nat.le_refl _) _
  have ht : TapeOk (W.heap.size + 1) C.w0.heap.size (W.alloc (.cells #[.slice a len cap, .int .i64 0] 70)) W.heap.size := by
    obtain ⟨a', len', cap', e, hl, hlc, hcm, hwf, hc⟩ := h0
    cases e
    have hm : cap ≤ 9223372036854775807 := by simpa [maxLen] using hcm
    refine ⟨a, len, cap, 0, by omega, by simp, World.cell?_alloc_new _ _ _ _, World.cell?_alloc_new _ _ _ _, by simp [go_sem], by omega, by omega, fun hpos => ?_⟩
    obtain ⟨b, off, rfl, hlt, hcell⟩ := hc hpos
    have hsz := hW.size
    refine ⟨b, off, rfl, by omega, by omega, hlt, fun i hi => ⟨zs.getD i 0, (hb.cell (p := ⟨b, off + i, none⟩) (show b < _ by omega)).trans ((hW.cell (p := ⟨b, off + i, none⟩) hlt).trans (hcell i hi)), ?_⟩⟩
    refine I64.of_wf (hwf _ ?_)
    rw [List.getD_eq_getElem?_getD, List.getElem?_eq_getElem (by omega)]
    exact List.getElem_mem _
  refine ⟨⟨W.heap.size, fun hT2 => by have := (hbs _ hT2).2; omega⟩, he, ⟨hb.os, hb.tape, hb.output, hb.size, fun i hi _ => hb.block i hi⟩, ?_, ?_⟩
  · intro k hk
    rcases List.mem_cons.1 hk with rfl | hk
    · exact ⟨hW.size, ht⟩
    · exact (hok k hk).below hb
  · intro b hbb
    obtain ⟨k, hk, hbb⟩ := kX_bs.1 hbb
    rcases List.mem_cons.1 hk with rfl | hk
    · have : b = W.heap.size := List.mem_singleton.1 hbb
      subst this
      exact ⟨.inr (Nat.le_refl _), ht.lt⟩
    · exact ⟨.inl (by rw [hT]; exact kX_bs.2 ⟨k, hk, hbb⟩), Nat.lt_of_lt_of_le ((hok k hk).lt b hbb).2 hb.size⟩
end Sx
end Go.Proofs.Ytlanoclibdhpmaa

/- Hf: What calls of the reference's DivMod and Unsigned give; the numbers as atoms. -/
namespace Go.Proofs.Ytlanoclibdhpmaa
open Go Go.RowKit Sx
set_option linter.unusedVariables false
set_option linter.unusedSimpArgs false
theorem g_wide {neg : Bool} {a : Option Addr} {len cap : Nat} {ws : List Int} {W : World} (h : SlU W (.slice a len cap) ws) : Gives Try.prog 67 [.bool neg, .slice a len cap] W (· = .tuple #[WE (cl (sv neg (VL ws))), .bool (fb (sv neg (VL ws)))]) :=
  gives_known en_r02_wide (rwide_any neg a len cap ws W h)
theorem ask_wide {C : Cx} {S : St} {K : St → Prop} {d : Option Nat} {L : List Kn} {a : Option Addr} {c : Nat} {t z : Int} {neg : Bool} (hP : C.P = Try.prog) (hT : S.T = kX C.w0.heap.size L) (hm : .r (.slice a (wl t).length c) (wl t) ∈ L) (ht : 0 ≤ t) (e : z = sv neg t) (hf : Fits z)
    (hk : K (S.put d (.v (.tuple #[WE z, .bool true])))) : asks C 67 [.bool neg, .slice a (wl t).length c] d K S :=
  asks_ext (v := .tuple #[WE z, .bool true]) (fun W hW hok => by
    rw [hT] at hok
    have := g_wide (neg := neg) (W := W) (hok (.r (.slice a (wl t).length c) (wl t)) hm).1
    rw [VL_wl ht, ← e, cl_fit hf, fb_fit hf] at this
    rw [hP]
    exact this) hk
theorem fits_ediv {z y : Int} (h : Fits z) (hy : y ≠ 0) : Fits (z / y) := by
  refine fits_le h ?_
  rcases Int.lt_or_lt_of_ne hy with h | h
  · have e : z / y = -(z / -y) := by rw [Int.ediv_neg, Int.neg_neg]
    rw [e, ab_neg]
    exact ab_fdiv_le z (by omega)
  · exact ab_fdiv_le z h
theorem fits_emod {z y : Int} (h : Fits y) (hy : y ≠ 0) : Fits (z % y) := by
  refine fits_le h ?_
  have h1 := Int.emod_nonneg z hy
  rw [ab_pos h1]
  have h2 := Int.emod_lt z hy
  unfold ab
  split <;> omega
set_option maxRecDepth 100000 in
theorem rg_divmod {v v' : Value} {z y : Int} (h : IsW v z) (h' : IsW v' y) (W0 : World) : Gives Try.prog 46 [v, v'] W0 (· = .tuple #[WE (z / y), WE (dr z y), .bool (decide (y ≠ 0))]) := by
  have fz : Fits z := by obtain ⟨n, a, b, c, d, -, rfl, ha, hb, hc, hd⟩ := h; unfold Fits; rw [ab_wv ha hb hc hd]; exact up4_mv ha hb hc hd
  have fy : Fits y := by obtain ⟨n, a, b, c, d, -, rfl, ha, hb, hc, hd⟩ := h'; unfold Fits; rw [ab_wv ha hb hc hd]; exact up4_mv ha hb hc hd
  obtain ⟨n, m, rfl, am, hab, hz, hn⟩ := h.me
  obtain ⟨n', m', rfl, am', hab', hy, hn'⟩ := h'.me
  refine gives_known en_r02_DivMod ?_
  have p1 : cn n (lb0 m) (lb1 m) (lb2 m) (lb3 m) = decide (z < 0) := hn
  have p2 : cn n' (lb0 m') (lb1 m') (lb2 m') (lb3 m') = decide (y < 0) := hn'
  have SI : IsW (WV (decide (y < 0)) (lb0 m') (lb1 m') (lb2 m') (lb3 m')) y := by
    have := IsW.raw (n := cn n' (lb0 m') (lb1 m') (lb2 m') (lb3 m')) (lb0_in m') (lb1_in m') (lb2_in m') (lb3_in m')
    rw [wv_cn, p2] at this
    have e : wv n' (lb0 m') (lb1 m') (lb2 m') (lb3 m') = y := by rw [hy]; unfold wv sv; rw [mv_me am']
    rw [e] at this
    exact this
  clear hz hy hn hn' h h'
  have hcm := cm_zero y
  by_cases hy0 : y = 0
  · have hc0 : cm y 0 = 0 := by subst hy0; rfl
    have e1 : z / y = 0 := by rw [hy0]; exact Int.ediv_zero z
    have e2 : dr z y = 0 := if_pos hy0
    have e3 : decide (y ≠ 0) = false := by simp [hy0]
    rw [e1, e2, e3]
    clear hcm e1 e2 e3 hab hab'
    refine Sx.known_of (r02_DivMod_start (args := [WV n (lb0 m) (lb1 m) (lb2 m) (lb3 m), WV n' (lb0 m') (lb1 m') (lb2 m') (lb3 m')]) (by simp) ?_)
    repeat' (first | (simp (disch := omega) only [Sx.sxE, r02_DivMod_E, Nat.reduceAdd, Nat.reduceEqDiff, Nat.reduceMul, Nat.reduceSub, Int.reduceAdd, Int.reduceSub, Int.reduceMul, Int.reduceNeg, Int.reduceLT, Int.reduceLE, Int.reduceEq, Int.reduceToNat, ↓reduceIte, decide_true, decide_false, true_and, and_true, not_false_eq_true, not_true_eq_false, Bool.not_true, Bool.not_false, Bool.not_not, Int.cast_ofNat_Int, Int.toNat_natCast, Int.reducePow, ne_eq, eq_self, and_self, Nat.le_refl, Nat.reduceLeDiff, Nat.reduceLT, Bool.false_eq_true, List.length_cons, List.length_nil, p1, p2]) | ((with_reducible apply Sx.known_at (f := 66)); (case h => (intro W hW; (change Gives Try.prog _ _ _ _); with_reducible exact rg_clean _ (lb0_in _) (lb1_in _) (lb2_in _) (lb3_in _) W)); (case' hk => skip)) | ((with_reducible apply Sx.asks_at (f := 66)); (case h => (intro W hW; (change Gives Try.prog _ _ _ _); with_reducible exact rg_clean _ (lb0_in _) (lb1_in _) (lb2_in _) (lb3_in _) W)); (case' hk => skip)) | ((with_reducible apply Sx.known_at (f := 47)); (case h => (intro W hW; (change Gives Try.prog _ _ _ _); with_reducible exact rg_sign SI W)); (case' hk => skip)) | ((with_reducible apply Sx.asks_at (f := 47)); (case h => (intro W hW; (change Gives Try.prog _ _ _ _); with_reducible exact rg_sign SI W)); (case' hk => skip)))
    rfl
  · have hc0 : cm y 0 ≠ 0 := by rw [hcm]; split <;> (try split) <;> omega
    have e3 : decide (y ≠ 0) = true := by simp [hy0]
    have hm' : 0 < m' := by rw [← hab']; unfold ab; split <;> omega
    obtain ⟨D1, D2⟩ := dm_plain (z := z) hy0
    rw [hab, hab'] at D1 D2
    have e2 : dr z y = z % y := if_neg hy0
    rw [e2, e3]
    have ar : A4 (m % m') := ⟨Int.emod_nonneg _ (by omega), by have := Int.emod_lt_of_pos m hm'; have := am'.2; omega⟩
    have aq : A4 (m / m') := ⟨Int.ediv_nonneg am.1 (by omega), by have := Int.ediv_le_self m' am.1; have := am.2; omega⟩
    have q1 := fits_ediv fz hy0
    have q2 := fits_emod (z := z) fy hy0
    generalize hQ : z / y = Q at *
    generalize hR : z % y = R at *
    refine Sx.known_of (r02_DivMod_start (args := [WV n (lb0 m) (lb1 m) (lb2 m) (lb3 m), WV n' (lb0 m') (lb1 m') (lb2 m') (lb3 m')]) (by simp) ?_)
    repeat' (first | (simp (disch := omega) only [Sx.sxE, r02_DivMod_E, Nat.reduceAdd, Nat.reduceEqDiff, Nat.reduceMul, Nat.reduceSub, Int.reduceAdd, Int.reduceSub, Int.reduceMul, Int.reduceNeg, Int.reduceLT, Int.reduceLE, Int.reduceEq, Int.reduceToNat, ↓reduceIte, decide_true, decide_false, true_and, and_true, not_false_eq_true, not_true_eq_false, Bool.not_true, Bool.not_false, Bool.not_not, Int.cast_ofNat_Int, Int.toNat_natCast, Int.reducePow, ne_eq, eq_self, and_self, Nat.le_refl, Nat.reduceLeDiff, Nat.reduceLT, Bool.false_eq_true, List.length_cons, List.length_nil, p1, p2]) | ((with_reducible apply Sx.known_at (f := 66)); (case h => (intro W hW; (change Gives Try.prog _ _ _ _); with_reducible exact rg_clean _ (lb0_in _) (lb1_in _) (lb2_in _) (lb3_in _) W)); (case' hk => skip)) | ((with_reducible apply Sx.asks_at (f := 66)); (case h => (intro W hW; (change Gives Try.prog _ _ _ _); with_reducible exact rg_clean _ (lb0_in _) (lb1_in _) (lb2_in _) (lb3_in _) W)); (case' hk => skip)) | ((with_reducible apply Sx.known_at (f := 47)); (case h => (intro W hW; (change Gives Try.prog _ _ _ _); with_reducible exact rg_sign SI W)); (case' hk => skip)) | ((with_reducible apply Sx.asks_at (f := 47)); (case h => (intro W hW; (change Gives Try.prog _ _ _ _); with_reducible exact rg_sign SI W)); (case' hk => skip)))
    refine asks_r (L := []) (ws := wl m) en_r02_of (kX_nil _) (fun W hW _ => of_mag am W) fun a1 c1 hs1 hn1 => ?_
    simp (disch := omega) only [Sx.sxE, r02_DivMod_E, Nat.reduceAdd, Nat.reduceEqDiff, Nat.reduceMul, Nat.reduceSub, Int.reduceAdd, Int.reduceSub, Int.reduceMul, Int.reduceNeg, Int.reduceLT, Int.reduceLE, Int.reduceEq, Int.reduceToNat, ↓reduceIte, decide_true, decide_false, true_and, and_true, not_false_eq_true, not_true_eq_false, Bool.not_true, Bool.not_false, Bool.not_not, Int.cast_ofNat_Int, Int.toNat_natCast, Int.reducePow, ne_eq, eq_self, and_self, Nat.le_refl, Nat.reduceLeDiff, Nat.reduceLT, Bool.false_eq_true, List.length_cons, List.length_nil]
    refine asks_r (L := [.r (.slice a1 (wl m).length c1) (wl m)]) (ws := wl m') en_r02_of rfl (fun W hW _ => of_mag am' W) fun a2 c2 hs2 hn2 => ?_
    simp (disch := omega) only [Sx.sxE, r02_DivMod_E, Nat.reduceAdd, Nat.reduceEqDiff, Nat.reduceMul, Nat.reduceSub, Int.reduceAdd, Int.reduceSub, Int.reduceMul, Int.reduceNeg, Int.reduceLT, Int.reduceLE, Int.reduceEq, Int.reduceToNat, ↓reduceIte, decide_true, decide_false, true_and, and_true, not_false_eq_true, not_true_eq_false, Bool.not_true, Bool.not_false, Bool.not_not, Int.cast_ofNat_Int, Int.toNat_natCast, Int.reducePow, ne_eq, eq_self, and_self, Nat.le_refl, Nat.reduceLeDiff, Nat.reduceLT, Bool.false_eq_true, List.length_cons, List.length_nil]
    refine asks_r2 (L := [.r (.slice a2 (wl m').length c2) (wl m'), .r (.slice a1 (wl m).length c1) (wl m)]) (ws := wl (m / m')) (vs := wl (m % m')) en_r02_divmod rfl (fun W hW hok => rdivmod_any am am' hm' (hok (.r (.slice a1 (wl m).length c1) (wl m)) (List.mem_cons_of_mem _ List.mem_cons_self)).1 (hok (.r (.slice a2 (wl m').length c2) (wl m')) List.mem_cons_self).1) fun a3 c3 a4 c4 hs3 hs4 => ?_
    clear hn1 hn2 hs1 hs2 hs3 hs4 hcm p1 p2
    have l1 := pw4b ar
    have l2 := pw4b aq
    have l3 := pw4b am'
    have v1 := VL_wl aq.1
    have v2 := VL_wl ar.1
    have hl0 : ((wl (m % m')).length : Int) > 0 ↔ m % m' ≠ 0 := by
      constructor
      · intro h e; rw [e, wl_nil (Int.le_refl _)] at h; simp at h
      · intro h
        have := ar.1
        rw [wl_cons (by omega), List.length_cons]; omega
    by_cases hC : ¬ z < 0 ∨ m % m' = 0
    · obtain ⟨e4, e5⟩ := D1 hC
      clear D1 D2 hab hab' SI e3 hQ hR e2 l1 l2 l3
      have e6 : sv false (m % m') = R := e5.symm
      have hR0 : R = sv false (m % m') := e5
      by_cases hz : z < 0
      · have h0 : m % m' = 0 := by omega
        have hlf : ¬ ((wl (m % m')).length : Int) > 0 := fun h => hl0.1 h h0
        clear hl0 hC
        simp only [decide_eq_true hz]
        repeat' (first | (simp (disch := omega) only [Sx.sxE, r02_DivMod_E, Nat.reduceAdd, Nat.reduceEqDiff, Nat.reduceMul, Nat.reduceSub, Int.reduceAdd, Int.reduceSub, Int.reduceMul, Int.reduceNeg, Int.reduceLT, Int.reduceLE, Int.reduceEq, Int.reduceToNat, ↓reduceIte, decide_true, decide_false, true_and, and_true, not_false_eq_true, not_true_eq_false, Bool.not_true, Bool.not_false, Bool.not_not, Int.cast_ofNat_Int, Int.toNat_natCast, Int.reducePow, ne_eq, eq_self, and_self, Nat.le_refl, Nat.reduceLeDiff, Nat.reduceLT, Bool.false_eq_true, List.length_cons, List.length_nil]))
        refine ask_wide rfl rfl List.mem_cons_self aq.1 (by rw [e4, decide_eq_true hz]; rfl) q1 ?_
        repeat' (first | (simp (disch := omega) only [Sx.sxE, r02_DivMod_E, Nat.reduceAdd, Nat.reduceEqDiff, Nat.reduceMul, Nat.reduceSub, Int.reduceAdd, Int.reduceSub, Int.reduceMul, Int.reduceNeg, Int.reduceLT, Int.reduceLE, Int.reduceEq, Int.reduceToNat, ↓reduceIte, decide_true, decide_false, true_and, and_true, not_false_eq_true, not_true_eq_false, Bool.not_true, Bool.not_false, Bool.not_not, Int.cast_ofNat_Int, Int.toNat_natCast, Int.reducePow, ne_eq, eq_self, and_self, Nat.le_refl, Nat.reduceLeDiff, Nat.reduceLT, Bool.false_eq_true, List.length_cons, List.length_nil]))
        refine ask_wide rfl rfl (List.mem_cons_of_mem _ List.mem_cons_self) ar.1 hR0 q2 ?_
        repeat' (first | (simp (disch := omega) only [Sx.sxE, r02_DivMod_E, Nat.reduceAdd, Nat.reduceEqDiff, Nat.reduceMul, Nat.reduceSub, Int.reduceAdd, Int.reduceSub, Int.reduceMul, Int.reduceNeg, Int.reduceLT, Int.reduceLE, Int.reduceEq, Int.reduceToNat, ↓reduceIte, decide_true, decide_false, true_and, and_true, not_false_eq_true, not_true_eq_false, Bool.not_true, Bool.not_false, Bool.not_not, Int.cast_ofNat_Int, Int.toNat_natCast, Int.reducePow, ne_eq, eq_self, and_self, Nat.le_refl, Nat.reduceLeDiff, Nat.reduceLT, Bool.false_eq_true, List.length_cons, List.length_nil]))
      · clear hl0 hC
        simp only [decide_eq_false hz]
        repeat' (first | (simp (disch := omega) only [Sx.sxE, r02_DivMod_E, Nat.reduceAdd, Nat.reduceEqDiff, Nat.reduceMul, Nat.reduceSub, Int.reduceAdd, Int.reduceSub, Int.reduceMul, Int.reduceNeg, Int.reduceLT, Int.reduceLE, Int.reduceEq, Int.reduceToNat, ↓reduceIte, decide_true, decide_false, true_and, and_true, not_false_eq_true, not_true_eq_false, Bool.not_true, Bool.not_false, Bool.not_not, Int.cast_ofNat_Int, Int.toNat_natCast, Int.reducePow, ne_eq, eq_self, and_self, Nat.le_refl, Nat.reduceLeDiff, Nat.reduceLT, Bool.false_eq_true, List.length_cons, List.length_nil]))
        refine ask_wide rfl rfl List.mem_cons_self aq.1 (by rw [e4, decide_eq_false hz]; rfl) q1 ?_
        repeat' (first | (simp (disch := omega) only [Sx.sxE, r02_DivMod_E, Nat.reduceAdd, Nat.reduceEqDiff, Nat.reduceMul, Nat.reduceSub, Int.reduceAdd, Int.reduceSub, Int.reduceMul, Int.reduceNeg, Int.reduceLT, Int.reduceLE, Int.reduceEq, Int.reduceToNat, ↓reduceIte, decide_true, decide_false, true_and, and_true, not_false_eq_true, not_true_eq_false, Bool.not_true, Bool.not_false, Bool.not_not, Int.cast_ofNat_Int, Int.toNat_natCast, Int.reducePow, ne_eq, eq_self, and_self, Nat.le_refl, Nat.reduceLeDiff, Nat.reduceLT, Bool.false_eq_true, List.length_cons, List.length_nil]))
        refine ask_wide rfl rfl (List.mem_cons_of_mem _ List.mem_cons_self) ar.1 hR0 q2 ?_
        repeat' (first | (simp (disch := omega) only [Sx.sxE, r02_DivMod_E, Nat.reduceAdd, Nat.reduceEqDiff, Nat.reduceMul, Nat.reduceSub, Int.reduceAdd, Int.reduceSub, Int.reduceMul, Int.reduceNeg, Int.reduceLT, Int.reduceLE, Int.reduceEq, Int.reduceToNat, ↓reduceIte, decide_true, decide_false, true_and, and_true, not_false_eq_true, not_true_eq_false, Bool.not_true, Bool.not_false, Bool.not_not, Int.cast_ofNat_Int, Int.toNat_natCast, Int.reducePow, ne_eq, eq_self, and_self, Nat.le_refl, Nat.reduceLeDiff, Nat.reduceLT, Bool.false_eq_true, List.length_cons, List.length_nil]))
    · have hz : z < 0 := by omega
      have h0 : m % m' ≠ 0 := by omega
      obtain ⟨e4, e5⟩ := D2 hz h0
      have hlf : ((wl (m % m')).length : Int) > 0 := hl0.2 h0
      clear D1 D2 hab hab' SI e3 hQ hR e2 hl0 hC
      have hR0 : R = sv false (m' - m % m') := e5
      simp only [decide_eq_true hz]
      repeat' (first | (simp (disch := omega) only [Sx.sxE, r02_DivMod_E, Nat.reduceAdd, Nat.reduceEqDiff, Nat.reduceMul, Nat.reduceSub, Int.reduceAdd, Int.reduceSub, Int.reduceMul, Int.reduceNeg, Int.reduceLT, Int.reduceLE, Int.reduceEq, Int.reduceToNat, ↓reduceIte, decide_true, decide_false, true_and, and_true, not_false_eq_true, not_true_eq_false, Bool.not_true, Bool.not_false, Bool.not_not, Int.cast_ofNat_Int, Int.toNat_natCast, Int.reducePow, ne_eq, eq_self, and_self, Nat.le_refl, Nat.reduceLeDiff, Nat.reduceLT, Bool.false_eq_true, List.length_cons, List.length_nil]))
      have w1 : wl (1 : Int) = [1] := (wl_one (by decide) (by rw [wl_cons (by decide), show (1 : Int) / 18446744073709551616 = 0 by decide, wl_nil (by decide)]; rfl)).1
      have hlt := Int.emod_lt_of_pos m hm'
      have asx : A4 (m' - m % m') := ⟨by omega, by have := ar.1; have := am'.2; omega⟩
      have aq1 : A4 (m / m' + 1) := by
        refine ⟨by have := aq.1; omega, ?_⟩
        have h2 : 2 ≤ m' := by
          rcases Int.lt_or_le m' 2 with h | h
          · exact absurd (show m % m' = 0 by have : m' = 1 := by omega
                                             rw [this]; exact Int.emod_one m) h0
          · exact h
        have := Int.mul_ediv_add_emod m m'
        have h3 := Int.mul_le_mul_of_nonneg_right h2 aq.1
        have := am.2
        have := ar.1
        omega
      refine genA_o (L := [.r (.slice a3 (wl (m / m')).length c3) (wl (m / m')), .r (.slice a4 (wl (m % m')).length c4) (wl (m % m')), .r (.slice a2 (wl m').length c2) (wl m'), .r (.slice a1 (wl m).length c1) (wl m)]) (ws := [1]) rfl (fun W hW _ => gen_one ⟨by decide, by decide⟩ W) fun g5 c5 hn5 => ?_
      clear hn5
      repeat' (first | (simp (disch := omega) only [Sx.sxE, r02_DivMod_E, Nat.reduceAdd, Nat.reduceEqDiff, Nat.reduceMul, Nat.reduceSub, Int.reduceAdd, Int.reduceSub, Int.reduceMul, Int.reduceNeg, Int.reduceLT, Int.reduceLE, Int.reduceEq, Int.reduceToNat, ↓reduceIte, decide_true, decide_false, true_and, and_true, not_false_eq_true, not_true_eq_false, Bool.not_true, Bool.not_false, Bool.not_not, Int.cast_ofNat_Int, Int.toNat_natCast, Int.reducePow, ne_eq, eq_self, and_self, Nat.le_refl, Nat.reduceLeDiff, Nat.reduceLT, Bool.false_eq_true, List.length_cons, List.length_nil]))
      refine asks_r (L := [.o (.slice (some ⟨g5, 0, none⟩) 1 c5) [1], .r (.slice a3 (wl (m / m')).length c3) (wl (m / m')), .r (.slice a4 (wl (m % m')).length c4) (wl (m % m')), .r (.slice a2 (wl m').length c2) (wl m'), .r (.slice a1 (wl m).length c1) (wl m)]) (ws := wl (m / m' + 1)) en_r02_add rfl (fun W hW hok => by
        have h5 : OwnU W W0.heap.size (.slice (some ⟨g5, 0, none⟩) 1 c5) [1] := hok (.o (.slice (some ⟨g5, 0, none⟩) 1 c5) [1]) List.mem_cons_self
        exact radd_any _ _ _ _ _ _ _ _ aq.1 (by decide) (by omega) (by decide) W (hok (.r (.slice a3 (wl (m / m')).length c3) (wl (m / m'))) (List.mem_cons_of_mem _ List.mem_cons_self)).1 (by rw [w1]; exact h5.sl)) fun a6 c6 hs6 hn6 => ?_
      clear hs6 hn6
      repeat' (first | (simp (disch := omega) only [Sx.sxE, r02_DivMod_E, Nat.reduceAdd, Nat.reduceEqDiff, Nat.reduceMul, Nat.reduceSub, Int.reduceAdd, Int.reduceSub, Int.reduceMul, Int.reduceNeg, Int.reduceLT, Int.reduceLE, Int.reduceEq, Int.reduceToNat, ↓reduceIte, decide_true, decide_false, true_and, and_true, not_false_eq_true, not_true_eq_false, Bool.not_true, Bool.not_false, Bool.not_not, Int.cast_ofNat_Int, Int.toNat_natCast, Int.reducePow, ne_eq, eq_self, and_self, Nat.le_refl, Nat.reduceLeDiff, Nat.reduceLT, Bool.false_eq_true, List.length_cons, List.length_nil]))
      refine asks_r (L := [.r (.slice a6 (wl (m / m' + 1)).length c6) (wl (m / m' + 1)), .o (.slice (some ⟨g5, 0, none⟩) 1 c5) [1], .r (.slice a3 (wl (m / m')).length c3) (wl (m / m')), .r (.slice a4 (wl (m % m')).length c4) (wl (m % m')), .r (.slice a2 (wl m').length c2) (wl m'), .r (.slice a1 (wl m).length c1) (wl m)]) (ws := wl m') en_r02_of rfl (fun W hW _ => of_mag am' W) fun a7 c7 hs7 hn7 => ?_
      clear hs7 hn7
      repeat' (first | (simp (disch := omega) only [Sx.sxE, r02_DivMod_E, Nat.reduceAdd, Nat.reduceEqDiff, Nat.reduceMul, Nat.reduceSub, Int.reduceAdd, Int.reduceSub, Int.reduceMul, Int.reduceNeg, Int.reduceLT, Int.reduceLE, Int.reduceEq, Int.reduceToNat, ↓reduceIte, decide_true, decide_false, true_and, and_true, not_false_eq_true, not_true_eq_false, Bool.not_true, Bool.not_false, Bool.not_not, Int.cast_ofNat_Int, Int.toNat_natCast, Int.reducePow, ne_eq, eq_self, and_self, Nat.le_refl, Nat.reduceLeDiff, Nat.reduceLT, Bool.false_eq_true, List.length_cons, List.length_nil]))
      refine asks_r (L := [.r (.slice a7 (wl m').length c7) (wl m'), .r (.slice a6 (wl (m / m' + 1)).length c6) (wl (m / m' + 1)), .o (.slice (some ⟨g5, 0, none⟩) 1 c5) [1], .r (.slice a3 (wl (m / m')).length c3) (wl (m / m')), .r (.slice a4 (wl (m % m')).length c4) (wl (m % m')), .r (.slice a2 (wl m').length c2) (wl m'), .r (.slice a1 (wl m).length c1) (wl m)]) (ws := wl (m' - m % m')) en_r02_sub rfl (fun W hW hok => rsub_any _ _ _ _ _ _ _ _ ar.1 (by omega) (by omega) W (hok (.r (.slice a7 (wl m').length c7) (wl m')) (by simp)).1 (hok (.r (.slice a4 (wl (m % m')).length c4) (wl (m % m'))) (by simp)).1) fun a8 c8 hs8 hn8 => ?_
      clear hs8 hn8
      repeat' (first | (simp (disch := omega) only [Sx.sxE, r02_DivMod_E, Nat.reduceAdd, Nat.reduceEqDiff, Nat.reduceMul, Nat.reduceSub, Int.reduceAdd, Int.reduceSub, Int.reduceMul, Int.reduceNeg, Int.reduceLT, Int.reduceLE, Int.reduceEq, Int.reduceToNat, ↓reduceIte, decide_true, decide_false, true_and, and_true, not_false_eq_true, not_true_eq_false, Bool.not_true, Bool.not_false, Bool.not_not, Int.cast_ofNat_Int, Int.toNat_natCast, Int.reducePow, ne_eq, eq_self, and_self, Nat.le_refl, Nat.reduceLeDiff, Nat.reduceLT, Bool.false_eq_true, List.length_cons, List.length_nil]))
      refine ask_wide rfl rfl (t := m / m' + 1) (by simp) aq1.1 (by rw [e4, decide_eq_true hz]; rfl) q1 ?_
      repeat' (first | (simp (disch := omega) only [Sx.sxE, r02_DivMod_E, Nat.reduceAdd, Nat.reduceEqDiff, Nat.reduceMul, Nat.reduceSub, Int.reduceAdd, Int.reduceSub, Int.reduceMul, Int.reduceNeg, Int.reduceLT, Int.reduceLE, Int.reduceEq, Int.reduceToNat, ↓reduceIte, decide_true, decide_false, true_and, and_true, not_false_eq_true, not_true_eq_false, Bool.not_true, Bool.not_false, Bool.not_not, Int.cast_ofNat_Int, Int.toNat_natCast, Int.reducePow, ne_eq, eq_self, and_self, Nat.le_refl, Nat.reduceLeDiff, Nat.reduceLT, Bool.false_eq_true, List.length_cons, List.length_nil]))
      refine ask_wide rfl rfl (t := m' - m % m') (by simp) asx.1 hR0 q2 ?_
      repeat' (first | (simp (disch := omega) only [Sx.sxE, r02_DivMod_E, Nat.reduceAdd, Nat.reduceEqDiff, Nat.reduceMul, Nat.reduceSub, Int.reduceAdd, Int.reduceSub, Int.reduceMul, Int.reduceNeg, Int.reduceLT, Int.reduceLE, Int.reduceEq, Int.reduceToNat, ↓reduceIte, decide_true, decide_false, true_and, and_true, not_false_eq_true, not_true_eq_false, Bool.not_true, Bool.not_false, Bool.not_not, Int.cast_ofNat_Int, Int.toNat_natCast, Int.reducePow, ne_eq, eq_self, and_self, Nat.le_refl, Nat.reduceLeDiff, Nat.reduceLT, Bool.false_eq_true, List.length_cons, List.length_nil]))
def unb (z : Int) : Bool := decide (0 ≤ z ∧ z < 18446744073709551616)
def unv (z : Int) : Int := if unb z then z else 0
theorem ab_of_sv {n : Bool} {m z : Int} (h : ab z = m) : (decide (z < 0) = true → z = -m) ∧ (decide (z < 0) = false → z = m) := by
  unfold ab at h
  constructor
  · intro h2; rw [if_pos (of_decide_eq_true h2)] at h; omega
  · intro h2; rw [if_neg (of_decide_eq_false h2)] at h; exact h
theorem rg_unsigned {v : Value} {z : Int} (h : IsW v z) (W : World) : Gives Try.prog 89 [v] W (· = .tuple #[.int .u64 (unv z), .bool (unb z)]) := by
  obtain ⟨n, m, rfl, am, hab, hz, hn⟩ := h.me
  refine gives_known en_r02_Unsigned ?_
  have p1 : cn n (lb0 m) (lb1 m) (lb2 m) (lb3 m) = decide (z < 0) := hn
  obtain ⟨k1, k2⟩ := ab_of_sv (n := n) hab
  have hl : ¬ 1 < ((wl m).length : Int) ↔ m < 18446744073709551616 := by
    have := wl_len_lt am.1 1
    have e : ((18446744073709551616 : Int) ^ 1) = 18446744073709551616 := by decide
    have e2 : (pw 1 : Int) = 18446744073709551616 := rfl
    rw [e2] at this
    omega
  clear h hn hz hab
  refine Sx.known_of (r02_Unsigned_start (args := [WV n (lb0 m) (lb1 m) (lb2 m) (lb3 m)]) (by simp) ?_)
  repeat' (first | (simp (disch := omega) only [Sx.sxE, r02_Unsigned_E, Nat.reduceAdd, Nat.reduceEqDiff, Nat.reduceMul, Nat.reduceSub, Int.reduceAdd, Int.reduceSub, Int.reduceMul, Int.reduceNeg, Int.reduceLT, Int.reduceLE, Int.reduceEq, Int.reduceToNat, ↓reduceIte, decide_true, decide_false, true_and, and_true, not_false_eq_true, not_true_eq_false, Bool.not_true, Bool.not_false, Bool.not_not, Int.cast_ofNat_Int, Int.toNat_natCast, Int.reducePow, ne_eq, eq_self, and_self, Nat.le_refl, Nat.reduceLeDiff, Nat.reduceLT, Bool.false_eq_true, List.length_cons, List.length_nil, p1]) | ((with_reducible apply Sx.known_at (f := 66)); (case h => (intro W hW; (change Gives Try.prog _ _ _ _); with_reducible exact rg_clean _ (lb0_in _) (lb1_in _) (lb2_in _) (lb3_in _) W)); (case' hk => skip)) | ((with_reducible apply Sx.asks_at (f := 66)); (case h => (intro W hW; (change Gives Try.prog _ _ _ _); with_reducible exact rg_clean _ (lb0_in _) (lb1_in _) (lb2_in _) (lb3_in _) W)); (case' hk => skip)))
  refine asks_r (L := []) (ws := wl m) en_r02_of (kX_nil _) (fun W hW _ => of_mag am W) fun a1 c1 hs1 hn1 => ?_
  clear hs1 hn1
  by_cases hneg : z < 0
  · have u1 : unb z = false := decide_eq_false (by omega)
    have u2 : unv z = 0 := by unfold unv; rw [u1]; rfl
    rw [u1, u2, decide_eq_true hneg]
    repeat' (first | (simp (disch := omega) only [Sx.sxE, r02_Unsigned_E, Nat.reduceAdd, Nat.reduceEqDiff, Nat.reduceMul, Nat.reduceSub, Int.reduceAdd, Int.reduceSub, Int.reduceMul, Int.reduceNeg, Int.reduceLT, Int.reduceLE, Int.reduceEq, Int.reduceToNat, ↓reduceIte, decide_true, decide_false, true_and, and_true, not_false_eq_true, not_true_eq_false, Bool.not_true, Bool.not_false, Bool.not_not, Int.cast_ofNat_Int, Int.toNat_natCast, Int.reducePow, ne_eq, eq_self, and_self, Nat.le_refl, Nat.reduceLeDiff, Nat.reduceLT, Bool.false_eq_true, List.length_cons, List.length_nil]))
  · have hzm := k2 (decide_eq_false hneg)
    rw [decide_eq_false hneg]
    by_cases hlt : m < 18446744073709551616
    · have u1 : unb z = true := decide_eq_true (by have := am.1; omega)
      have u2 : unv z = m := by unfold unv; rw [u1]; exact hzm
      have u3 : lb0 m = m := Int.emod_eq_of_lt am.1 hlt
      have u4 := hl.2 hlt
      rw [u1, u2, u3]
      clear hl k1 k2 u1 u2 u3 p1 hneg hzm
      repeat' (first | (simp (disch := omega) only [Sx.sxE, r02_Unsigned_E, Nat.reduceAdd, Nat.reduceEqDiff, Nat.reduceMul, Nat.reduceSub, Int.reduceAdd, Int.reduceSub, Int.reduceMul, Int.reduceNeg, Int.reduceLT, Int.reduceLE, Int.reduceEq, Int.reduceToNat, ↓reduceIte, decide_true, decide_false, true_and, and_true, not_false_eq_true, not_true_eq_false, Bool.not_true, Bool.not_false, Bool.not_not, Int.cast_ofNat_Int, Int.toNat_natCast, Int.reducePow, ne_eq, eq_self, and_self, Nat.le_refl, Nat.reduceLeDiff, Nat.reduceLT, Bool.false_eq_true, List.length_cons, List.length_nil]))
    · have u1 : unb z = false := decide_eq_false (by omega)
      have u2 : unv z = 0 := by unfold unv; rw [u1]; rfl
      have u4 : 1 < ((wl m).length : Int) := by omega
      rw [u1, u2]
      clear hl k1 k2 u1 u2 p1 hneg hzm
      repeat' (first | (simp (disch := omega) only [Sx.sxE, r02_Unsigned_E, Nat.reduceAdd, Nat.reduceEqDiff, Nat.reduceMul, Nat.reduceSub, Int.reduceAdd, Int.reduceSub, Int.reduceMul, Int.reduceNeg, Int.reduceLT, Int.reduceLE, Int.reduceEq, Int.reduceToNat, ↓reduceIte, decide_true, decide_false, true_and, and_true, not_false_eq_true, not_true_eq_false, Bool.not_true, Bool.not_false, Bool.not_not, Int.cast_ofNat_Int, Int.toNat_natCast, Int.reducePow, ne_eq, eq_self, and_self, Nat.le_refl, Nat.reduceLeDiff, Nat.reduceLT, Bool.false_eq_true, List.length_cons, List.length_nil]))
end Go.Proofs.Ytlanoclibdhpmaa

/- Hg: What calls of wide and of its reference give, on integers as atoms. -/
namespace Go.Proofs.Ytlanoclibdhpmaa
open Go Go.RowKit Sx
set_option linter.unusedVariables false
set_option linter.unusedSimpArgs false
theorem Fits.is {z : Int} (h : Fits z) : IsW (WX z) z := IsW.x h
theorem nz_is : IsW NZ 0 := ⟨true, 0, 0, 0, 0, rfl, rfl, ⟨by decide, by decide⟩, ⟨by decide, by decide⟩, ⟨by decide, by decide⟩, ⟨by decide, by decide⟩⟩
/-- A raw Wide: the Wide of an integer, or the negative 0. -/
theorem raw_cases (n : Bool) {a b c d : Int} (ha : U64 a) (hb : U64 b) (hc : U64 c) (hd : U64 d) : (∃ z, Fits z ∧ WV n a b c d = WX z) ∨ WV n a b c d = NZ := by
  by_cases h : (n && mz a b c d) = true
  · right
    rw [Bool.and_eq_true] at h
    obtain ⟨rfl, h2⟩ := h
    have hw : a = 0 ∧ b = 0 ∧ c = 0 ∧ d = 0 := by simpa [mz, meq] using h2
    obtain ⟨rfl, rfl, rfl, rfl⟩ := hw
    rfl
  · left
    refine ⟨wv n a b c d, ?_, ?_⟩
    · unfold Fits; rw [ab_wv ha hb hc hd]; exact up4_mv ha hb hc hd
    · have : cn n a b c d = n := by unfold cn; cases n <;> cases h2 : mz a b c d <;> simp_all
      have e := we_wv (n := n) ha hb hc hd
      rw [this] at e
      exact e
theorem valid_wx {z : Int} (h : Fits z) : (!sg z || !mz (lb0 (ab z)) (lb1 (ab z)) (lb2 (ab z)) (lb3 (ab z))) = true := by
  have a4 : A4 (ab z) := ⟨ab_nonneg z, (fits_lt z).1 h⟩
  rw [mz_me a4]
  unfold sg ab
  by_cases hz : z < 0
  · rw [decide_eq_true hz, if_pos hz, decide_eq_false (by omega)]; rfl
  · rw [decide_eq_false hz]; rfl
theorem tup2 {a b c d : Value} (h : a = c) (h' : b = d) : Value.tuple #[a, b] = Value.tuple #[c, d] := by rw [h, h']
theorem tup3 {a b c a' b' c' : Value} (h : a = a') (h1 : b = b') (h2 : c = c') : Value.tuple #[a, b, c] = Value.tuple #[a', b', c'] := by rw [h, h1, h2]
theorem gives_eq {P : Program} {f : FuncId} {l : List Value} {W : World} {u v : Value} (h : Gives P f l W (· = u)) (e : u = v) : Gives P f l W (· = v) := by subst e; exact h
theorem gx_valid {z : Int} (h : Fits z) (W : World) : Gives Try.prog 51 [WX z] W (· = .bool true) := gives_eq (g_valid _ _ _ _ _ W) (congrArg Value.bool (valid_wx h))
theorem gx_valid0 (W : World) : Gives Try.prog 51 [NZ] W (· = .bool false) := g_valid true 0 0 0 0 W
theorem rx_valid {z : Int} (h : Fits z) (W : World) : Gives Try.prog 57 [WX z] W (· = .bool true) := gives_eq (rg_valid _ (lb0_in _) (lb1_in _) (lb2_in _) (lb3_in _) W) (congrArg Value.bool (valid_wx h))
theorem rx_valid0 (W : World) : Gives Try.prog 57 [NZ] W (· = .bool false) := rg_valid true ⟨by decide, by decide⟩ ⟨by decide, by decide⟩ ⟨by decide, by decide⟩ ⟨by decide, by decide⟩ W
theorem gx_add {x y : Int} (h : Fits x) (h' : Fits y) (hf : Fits (x + y)) (W : World) : Gives Try.prog 62 [WX x, WX y] W (· = .tuple #[WX (x + y), .bool true]) := gives_eq (g_add h.is h'.is W) (tup2 (by rw [cl_fit hf]; rfl) (by rw [fb_fit hf]))
theorem gx_mul {x y : Int} (h : Fits x) (h' : Fits y) (hf : Fits (x * y)) (W : World) : Gives Try.prog 91 [WX x, WX y] W (· = .tuple #[WX (x * y), .bool true]) := gives_eq (g_mul h.is h'.is W) (tup2 (by rw [cl_fit hf]; rfl) (by rw [fb_fit hf]))
theorem gx_neg {x : Int} (h : Fits x) (W : World) : Gives Try.prog 53 [WX x] W (· = WX (-x)) := g_neg h.is W
theorem gx_sign {x : Int} (h : Fits x) (W : World) : Gives Try.prog 52 [WX x] W (· = .int .i64 (cm x 0)) := g_sign h.is W
theorem gx_of {x : Int} (h : I64 x) (W : World) : Gives Try.prog 60 [.int .i64 x] W (· = WX x) := g_of h W
theorem gx_ofU {x : Int} (h : U64 x) (W : World) : Gives Try.prog 64 [.int .u64 x] W (· = WX x) := g_ofU h W
theorem gx_compare {x y : Int} (h : Fits x) (h' : Fits y) (W : World) : Gives Try.prog 70 [WX x, WX y] W (· = .int .i64 (cm x y)) := g_compare h.is h'.is W
theorem gx_divmod {x y : Int} (h : Fits x) (h' : Fits y) (hy : y ≠ 0) (W : World) : Gives Try.prog 55 [WX x, WX y] W (· = .tuple #[WX (x / y), WX (x % y), .bool true]) := gives_eq (g_divmod h.is h'.is W) (tup3 rfl (by unfold dr; rw [if_neg hy]; rfl) (by rw [decide_eq_true hy]))
theorem rx_add {x y : Int} (h : Fits x) (h' : Fits y) (hf : Fits (x + y)) (W : World) : Gives Try.prog 32 [WX x, WX y] W (· = .tuple #[WX (x + y), .bool true]) := gives_eq (rg_add h.is h'.is W) (tup2 (by rw [cl_fit hf]; rfl) (by rw [fb_fit hf]))
theorem rx_sub {x y : Int} (h : Fits x) (h' : Fits y) (hf : Fits (x - y)) (W : World) : Gives Try.prog 26 [WX x, WX y] W (· = .tuple #[WX (x - y), .bool true]) := gives_eq (rg_sub h.is h'.is W) (tup2 (by rw [cl_fit hf]; rfl) (by rw [fb_fit hf]))
theorem rx_mul {x y : Int} (h : Fits x) (h' : Fits y) (hf : Fits (x * y)) (W : World) : Gives Try.prog 29 [WX x, WX y] W (· = .tuple #[WX (x * y), .bool true]) := gives_eq (rg_mul h.is h'.is W) (tup2 (by rw [cl_fit hf]; rfl) (by rw [fb_fit hf]))
theorem rx_neg {x : Int} (h : Fits x) (W : World) : Gives Try.prog 48 [WX x] W (· = WX (-x)) := rg_neg h.is W
theorem rx_sign {x : Int} (h : Fits x) (W : World) : Gives Try.prog 47 [WX x] W (· = .int .i64 (cm x 0)) := rg_sign h.is W
theorem rx_of {x : Int} (h : I64 x) (W : World) : Gives Try.prog 16 [.int .i64 x] W (· = WX x) := rg_Of h W
theorem rx_ofU {x : Int} (h : U64 x) (W : World) : Gives Try.prog 31 [.int .u64 x] W (· = WX x) := rg_OfU h W
theorem rx_compare {x y : Int} (h : Fits x) (h' : Fits y) (W : World) : Gives Try.prog 33 [WX x, WX y] W (· = .int .i64 (cm x y)) := rg_compare h.is h'.is W
theorem rx_divmod {x y : Int} (h : Fits x) (h' : Fits y) (hy : y ≠ 0) (W : World) : Gives Try.prog 46 [WX x, WX y] W (· = .tuple #[WX (x / y), WX (x % y), .bool true]) := gives_eq (rg_divmod h.is h'.is W) (tup3 rfl (by unfold dr; rw [if_neg hy]; rfl) (by rw [decide_eq_true hy]))
theorem rx_unsigned {z : Int} (h : Fits z) (W : World) : Gives Try.prog 89 [WX z] W (· = .tuple #[.int .u64 (unv z), .bool (unb z)]) := rg_unsigned h.is W
theorem we_inj {x y : Int} (h : Fits x) (h' : Fits y) : weq (sg x) (lb0 (ab x)) (lb1 (ab x)) (lb2 (ab x)) (lb3 (ab x)) (sg y) (lb0 (ab y)) (lb1 (ab y)) (lb2 (ab y)) (lb3 (ab y)) = decide (x = y) := by
  rw [Bool.eq_iff_iff, decide_eq_true_iff]
  constructor
  · intro e
    have e' : sg x = sg y ∧ lb0 (ab x) = lb0 (ab y) ∧ lb1 (ab x) = lb1 (ab y) ∧ lb2 (ab x) = lb2 (ab y) ∧ lb3 (ab x) = lb3 (ab y) := by simpa [weq, meq] using e
    obtain ⟨e0, e1, e2, e3, e4⟩ := e'
    have m1 := mv_me (z := ab x) ⟨ab_nonneg x, (fits_lt x).1 h⟩
    have m2 := mv_me (z := ab y) ⟨ab_nonneg y, (fits_lt y).1 h'⟩
    rw [e1, e2, e3, e4, m2] at m1
    unfold sg at e0
    have e0' : (x < 0) ↔ (y < 0) := by simpa using e0
    unfold ab at m1
    (repeat' (split at m1)) <;> omega
  · rintro rfl
    unfold weq meq; simp
theorem eqx_run {ng : Bool} {xo yo : Operand} {x y : Int} (h : Fits x) (h' : Fits y) (W : World) :
    ((do eqGuard (if ng then .neq else .eql) 25 xo yo (WX x) (WX y); binOp (if ng then .neq else .eql) 25 (WX x) (WX y)) : Sem Value).run Try.prog W = .ok (.bool (if ng then !decide (x = y) else decide (x = y))) W := by
  have := eqw_run (ng := ng) (xo := xo) (yo := yo) (sg x) (lb0 (ab x)) (lb1 (ab x)) (lb2 (ab x)) (lb3 (ab x)) (sg y) (lb0 (ab y)) (lb1 (ab y)) (lb2 (ab y)) (lb3 (ab y)) W
  rw [we_inj h h'] at this
  exact this
theorem guardT_ratio : Try.prog.eqGuardType Try.prog.depth 35 = false := by kernel_rfl
theorem eq_ratio (n : Bool) (a b c d : Int) (n1 : Bool) (a1 b1 c1 d1 : Int) (n' : Bool) (a' b' c' d' : Int) (n1' : Bool) (a1' b1' c1' d1' : Int) (w : World) :
    (Op.equalIn 10000 35 (.agg #[.bool n, .int .u64 a, .int .u64 b, .int .u64 c, .int .u64 d, .bool n1, .int .u64 a1, .int .u64 b1, .int .u64 c1, .int .u64 d1]) (.agg #[.bool n', .int .u64 a', .int .u64 b', .int .u64 c', .int .u64 d', .bool n1', .int .u64 a1', .int .u64 b1', .int .u64 c1', .int .u64 d1'])).run Try.prog w = .ok (weq n a b c d n' a' b' c' d' && weq n1 a1 b1 c1 d1 n1' a1' b1' c1' d1') w := by
  have h := fun W => eq_wide n a b c d n' a' b' c' d' 9996 W
  have h' := fun W => eq_wide n1 a1 b1 c1 d1 n1' a1' b1' c1' d1' 9996 W
  generalize weq n a b c d n' a' b' c' d' = e at *
  generalize weq n1 a1 b1 c1 d1 n1' a1' b1' c1' d1' = e' at *
  cases e <;> cases e' <;> simp [go_sem, h, h']
theorem eqq_run {ng : Bool} {xo yo : Operand} {p q p' q' : Int} (h : Fits p) (h1 : Fits q) (h' : Fits p') (h1' : Fits q') (W : World) :
    ((do eqGuard (if ng then .neq else .eql) 35 xo yo (RX p q) (RX p' q'); binOp (if ng then .neq else .eql) 35 (RX p q) (RX p' q')) : Sem Value).run Try.prog W = .ok (.bool (if ng then !(decide (p = p') && decide (q = q')) else (decide (p = p') && decide (q = q')))) W := by
  have := eqb_run (ng := ng) (xo := xo) (yo := yo) guardT_ratio (eq_ratio (sg p) (lb0 (ab p)) (lb1 (ab p)) (lb2 (ab p)) (lb3 (ab p)) (sg q) (lb0 (ab q)) (lb1 (ab q)) (lb2 (ab q)) (lb3 (ab q)) (sg p') (lb0 (ab p')) (lb1 (ab p')) (lb2 (ab p')) (lb3 (ab p')) (sg q') (lb0 (ab q')) (lb1 (ab q')) (lb2 (ab q')) (lb3 (ab q')) W)
  rw [we_inj h h', we_inj h1 h1'] at this
  exact this
end Go.Proofs.Ytlanoclibdhpmaa

/- CdR: MADE BY PROGRAM (sxgen.py): the small code of some functions, points of it and their equations. -/
namespace Go.Proofs.Ytlanoclibdhpmaa
open Go Go.RowKit Sx
set_option linter.unusedVariables false
variable (C : Cx) (R L1 L2 L3 L4 : St → Prop)
def ratio_At_r0 : List G := [(some 2, none, (.box true 10 (.tmp 0))), (some 4, none, (.new zW))]
def ratio_At_c2 : MC := (.reg ratio_At_r0 (some [1, 2, 4]))
def ratio_At_r1 : List G := [(some 11, none, (.ld true 10 (.tmp 2))), (some 12, none, (.call false 61 [(.tmp 11)])), (none, none, (.st true 10 (.tmp 2) (.tmp 12)))]
def ratio_At_c4 : MC := (.reg ratio_At_r1 (some [1, 2, 4]))
def ratio_At_r2 : List G := [(some 13, none, (.call false 60 [(.const (.int .i64 2))])), (some 5, none, (.new zW)), (none, none, (.st true 5 (.tmp 5) (.tmp 13)))]
def ratio_At_c6 : MC := (.reg ratio_At_r2 (some [1, 2, 4, 5]))
def ratio_At_r3 : List G := [(some 15, none, (.ld true 5 (.tmp 5))), (some 16, none, (.fa 0 (.tmp 2))), (some 17, none, (.ld true 5 (.tmp 16))), (some 18, none, (.mv (.tmp 1))), (some 19, none, (.call true 64 [(.tmp 18)])), (some 20, none, (.call true 63 [(.tmp 17), (.tmp 19)])), (some 21, none, (.call true 63 [(.tmp 15), (.tmp 20)])), (some 22, none, (.fa 5 (.tmp 2))), (some 23, none, (.ld true 5 (.tmp 22))), (some 24, none, (.call true 62 [(.tmp 21), (.tmp 23)])), (some 14, none, (.mv (.tmp 24))), (some 25, none, (.ex (.tmp 14) 0)), (some 26, none, (.ex (.tmp 14) 1))]
def ratio_At_t3 : List G := [(some 6, none, (.new zW)), (none, none, (.st true 5 (.tmp 6) (.tmp 25))), (some 7, none, (.mv (.tmp 26)))]
def ratio_At_c8 : MC := (.dreg ratio_At_r3 ratio_At_t3 (some [2, 4, 5, 6]))
def ratio_At_r4 : List G := [(some 28, none, (.ld true 5 (.tmp 6))), (some 29, none, (.ld true 5 (.tmp 5))), (some 30, none, (.fa 5 (.tmp 2))), (some 31, none, (.ld true 5 (.tmp 30))), (some 32, none, (.call true 63 [(.tmp 29), (.tmp 31)])), (some 33, none, (.call true 55 [(.tmp 28), (.tmp 32)])), (some 27, none, (.mv (.tmp 33))), (some 34, none, (.ex (.tmp 27) 0)), (some 35, none, (.ex (.tmp 27) 1)), (some 36, none, (.ex (.tmp 27) 2))]
def ratio_At_t4 : List G := [(some 8, none, (.new zW)), (some 9, none, (.new zW)), (none, none, (.st true 5 (.tmp 8) (.tmp 34))), (none, none, (.st true 5 (.tmp 9) (.tmp 35))), (some 10, none, (.mv (.tmp 36)))]
def ratio_At_c10 : MC := (.dreg ratio_At_r4 ratio_At_t4 (some [4, 8]))
def ratio_At_r5 : List G := [(some 37, none, (.ld true 5 (.tmp 8))), (none, none, (.st true 5 (.tmp 4) (.tmp 37)))]
def ratio_At_c12 : MC := (.reg ratio_At_r5 (some [4]))
def ratio_At_c11 : MC := (.seq ratio_At_c12 .ret)
def ratio_At_c9 : MC := (.seq ratio_At_c10 ratio_At_c11)
def ratio_At_c7 : MC := (.seq ratio_At_c8 ratio_At_c9)
def ratio_At_c5 : MC := (.seq ratio_At_c6 ratio_At_c7)
def ratio_At_c3 : MC := (.seq ratio_At_c4 ratio_At_c5)
def ratio_At_c1 : MC := (.seq ratio_At_c2 ratio_At_c3)
def ratio_At_ann : Ann := [(0, (some [1, 2, 4], 0, [], [], [])), (1, (some [1, 2, 4], 0, [], [], [])), (2, (some [1, 2, 4, 5], 0, [], [], [])), (3, (some [2, 4, 5, 6], 14, [12], [(0, 0), (1, 0), (2, 0), (3, 0), (4, 0), (5, 0), (6, 0), (7, 0), (8, 0), (9, 0), (10, 0), (11, 0), (12, 2)], [13])), (4, (some [4, 8], 12, [8, 9], [(0, 0), (1, 0), (2, 0), (3, 0), (4, 0), (5, 0), (6, 0), (7, 0), (8, 2), (9, 2)], [10, 11])), (5, (some [4], 0, [], [], []))]
theorem ratio_At_ok : compF Try.prog Try.f27 ratio_At_ann = some (38, ratio_At_c1, [(4, some (true, 5))]) := by kernel_rfl
def ratio_At_p1 : St → Prop := X C ratio_At_c12 (thenK R (retK R))
theorem ratio_At_p1_e (S : St) : ratio_At_p1 C R S = Sx.ops C ratio_At_r5 (kq [4] R) S := rfl
def ratio_At_p2 : St → Prop := X C ratio_At_c10 (thenK (ratio_At_p1 C R) (retK R))
theorem ratio_At_p2_e (S : St) : ratio_At_p2 C R S = Sx.ops C ratio_At_r4 (Sx.ops C ratio_At_t4 (kq [4, 8] (ratio_At_p1 C R))) S := rfl
def ratio_At_p3 : St → Prop := X C ratio_At_c8 (thenK (ratio_At_p2 C R) (retK R))
theorem ratio_At_p3_e (S : St) : ratio_At_p3 C R S = Sx.ops C ratio_At_r3 (Sx.ops C ratio_At_t3 (kq [2, 4, 5, 6] (ratio_At_p2 C R))) S := rfl
def ratio_At_p4 : St → Prop := X C ratio_At_c6 (thenK (ratio_At_p3 C R) (retK R))
theorem ratio_At_p4_e (S : St) : ratio_At_p4 C R S = Sx.ops C ratio_At_r2 (kq [1, 2, 4, 5] (ratio_At_p3 C R)) S := rfl
def ratio_At_p5 : St → Prop := X C ratio_At_c4 (thenK (ratio_At_p4 C R) (retK R))
theorem ratio_At_p5_e (S : St) : ratio_At_p5 C R S = Sx.ops C ratio_At_r1 (kq [1, 2, 4] (ratio_At_p4 C R)) S := rfl
def ratio_At_p6 : St → Prop := X C ratio_At_c2 (thenK (ratio_At_p5 C R) (retK R))
theorem ratio_At_p6_e (S : St) : ratio_At_p6 C R S = Sx.ops C ratio_At_r0 (kq [1, 2, 4] (ratio_At_p5 C R)) S := rfl
set_option maxRecDepth 100000 in
theorem ratio_At_s (S : St) : X C ratio_At_c1 (retK R) S = (ratio_At_p6 C R) S := rfl
theorem ratio_At_start {R : Value → Prop} {args : List Value} {w : World} : type_of% (enter (R := R) (args := args) (w := w) Try.func27 ratio_At_ok) := enter Try.func27 ratio_At_ok
theorem ratio_At_E : type_of% @ratio_At_r5.eq_1 ∧ type_of% @ratio_At_p1_e ∧ type_of% @ratio_At_r4.eq_1 ∧ type_of% @ratio_At_t4.eq_1 ∧ type_of% @ratio_At_p2_e ∧ type_of% @ratio_At_r3.eq_1 ∧ type_of% @ratio_At_t3.eq_1 ∧ type_of% @ratio_At_p3_e ∧ type_of% @ratio_At_r2.eq_1 ∧ type_of% @ratio_At_p4_e ∧ type_of% @ratio_At_r1.eq_1 ∧ type_of% @ratio_At_p5_e ∧ type_of% @ratio_At_r0.eq_1 ∧ type_of% @ratio_At_p6_e ∧ type_of% @ratio_At_s := ⟨@ratio_At_r5.eq_1, @ratio_At_p1_e, @ratio_At_r4.eq_1, @ratio_At_t4.eq_1, @ratio_At_p2_e, @ratio_At_r3.eq_1, @ratio_At_t3.eq_1, @ratio_At_p3_e, @ratio_At_r2.eq_1, @ratio_At_p4_e, @ratio_At_r1.eq_1, @ratio_At_p5_e, @ratio_At_r0.eq_1, @ratio_At_p6_e, @ratio_At_s⟩
def ratio_Ceil_r0 : List G := [(some 1, none, (.box true 10 (.tmp 0))), (some 2, none, (.new zW))]
def ratio_Ceil_c2 : MC := (.reg ratio_Ceil_r0 (some [1, 2]))
def ratio_Ceil_r1 : List G := [(some 3, none, (.ld true 10 (.tmp 1))), (some 4, none, (.call false 61 [(.tmp 3)])), (none, none, (.st true 10 (.tmp 1) (.tmp 4)))]
def ratio_Ceil_c4 : MC := (.reg ratio_Ceil_r1 (some [1, 2]))
def ratio_Ceil_r2 : List G := [(some 5, none, (.fa 0 (.tmp 1))), (some 6, none, (.ld true 5 (.tmp 5))), (some 7, none, (.call false 53 [(.tmp 6)])), (some 8, none, (.fa 0 (.tmp 1))), (none, none, (.st true 5 (.tmp 8) (.tmp 7)))]
def ratio_Ceil_c6 : MC := (.reg ratio_Ceil_r2 (some [1, 2]))
def ratio_Ceil_r3 : List G := [(some 9, none, (.ld true 10 (.tmp 1))), (some 10, none, (.call false 24 [(.tmp 9)])), (some 11, none, (.call false 53 [(.tmp 10)])), (none, none, (.st true 5 (.tmp 2) (.tmp 11)))]
def ratio_Ceil_c8 : MC := (.reg ratio_Ceil_r3 (some [2]))
def ratio_Ceil_c7 : MC := (.seq ratio_Ceil_c8 .ret)
def ratio_Ceil_c5 : MC := (.seq ratio_Ceil_c6 ratio_Ceil_c7)
def ratio_Ceil_c3 : MC := (.seq ratio_Ceil_c4 ratio_Ceil_c5)
def ratio_Ceil_c1 : MC := (.seq ratio_Ceil_c2 ratio_Ceil_c3)
def ratio_Ceil_ann : Ann := [(0, (some [1, 2], 0, [], [], [])), (1, (some [1, 2], 0, [], [], [])), (2, (some [1, 2], 0, [], [], [])), (3, (some [2], 0, [], [], []))]
theorem ratio_Ceil_ok : compF Try.prog Try.f25 ratio_Ceil_ann = some (12, ratio_Ceil_c1, [(2, some (true, 5))]) := by kernel_rfl
def ratio_Ceil_p1 : St → Prop := X C ratio_Ceil_c8 (thenK R (retK R))
theorem ratio_Ceil_p1_e (S : St) : ratio_Ceil_p1 C R S = Sx.ops C ratio_Ceil_r3 (kq [2] R) S := rfl
def ratio_Ceil_p2 : St → Prop := X C ratio_Ceil_c6 (thenK (ratio_Ceil_p1 C R) (retK R))
theorem ratio_Ceil_p2_e (S : St) : ratio_Ceil_p2 C R S = Sx.ops C ratio_Ceil_r2 (kq [1, 2] (ratio_Ceil_p1 C R)) S := rfl
def ratio_Ceil_p3 : St → Prop := X C ratio_Ceil_c4 (thenK (ratio_Ceil_p2 C R) (retK R))
theorem ratio_Ceil_p3_e (S : St) : ratio_Ceil_p3 C R S = Sx.ops C ratio_Ceil_r1 (kq [1, 2] (ratio_Ceil_p2 C R)) S := rfl
def ratio_Ceil_p4 : St → Prop := X C ratio_Ceil_c2 (thenK (ratio_Ceil_p3 C R) (retK R))
theorem ratio_Ceil_p4_e (S : St) : ratio_Ceil_p4 C R S = Sx.ops C ratio_Ceil_r0 (kq [1, 2] (ratio_Ceil_p3 C R)) S := rfl
set_option maxRecDepth 100000 in
theorem ratio_Ceil_s (S : St) : X C ratio_Ceil_c1 (retK R) S = (ratio_Ceil_p4 C R) S := rfl
theorem ratio_Ceil_start {R : Value → Prop} {args : List Value} {w : World} : type_of% (enter (R := R) (args := args) (w := w) Try.func25 ratio_Ceil_ok) := enter Try.func25 ratio_Ceil_ok
theorem ratio_Ceil_E : type_of% @ratio_Ceil_r3.eq_1 ∧ type_of% @ratio_Ceil_p1_e ∧ type_of% @ratio_Ceil_r2.eq_1 ∧ type_of% @ratio_Ceil_p2_e ∧ type_of% @ratio_Ceil_r1.eq_1 ∧ type_of% @ratio_Ceil_p3_e ∧ type_of% @ratio_Ceil_r0.eq_1 ∧ type_of% @ratio_Ceil_p4_e ∧ type_of% @ratio_Ceil_s := ⟨@ratio_Ceil_r3.eq_1, @ratio_Ceil_p1_e, @ratio_Ceil_r2.eq_1, @ratio_Ceil_p2_e, @ratio_Ceil_r1.eq_1, @ratio_Ceil_p3_e, @ratio_Ceil_r0.eq_1, @ratio_Ceil_p4_e, @ratio_Ceil_s⟩
def ratio_Compare_r0 : List G := [(some 2, none, (.box true 10 (.tmp 0))), (some 3, none, (.box true 10 (.tmp 1))), (some 4, none, (.mv (.const (.int .i64 0))))]
def ratio_Compare_c2 : MC := (.reg ratio_Compare_r0 (some [2, 3]))
def ratio_Compare_r1 : List G := [(some 5, none, (.ld true 10 (.tmp 2))), (some 6, none, (.call true 61 [(.tmp 5)])), (some 7, none, (.ld true 10 (.tmp 3))), (some 8, none, (.call true 61 [(.tmp 7)]))]
def ratio_Compare_t1 : List G := [(none, none, (.st true 10 (.tmp 2) (.tmp 6))), (none, none, (.st true 10 (.tmp 3) (.tmp 8)))]
def ratio_Compare_c4 : MC := (.dreg ratio_Compare_r1 ratio_Compare_t1 (some [2, 3]))
def ratio_Compare_r2 : List G := [(some 9, none, (.fa 0 (.tmp 2))), (some 10, none, (.ld true 5 (.tmp 9))), (some 11, none, (.fa 5 (.tmp 3))), (some 12, none, (.ld true 5 (.tmp 11))), (some 13, none, (.call true 63 [(.tmp 10), (.tmp 12)])), (some 14, none, (.fa 0 (.tmp 3))), (some 15, none, (.ld true 5 (.tmp 14))), (some 16, none, (.fa 5 (.tmp 2))), (some 17, none, (.ld true 5 (.tmp 16))), (some 18, none, (.call true 63 [(.tmp 15), (.tmp 17)])), (some 19, none, (.call true 70 [(.tmp 13), (.tmp 18)]))]
def ratio_Compare_t2 : List G := [(some 4, none, (.mv (.tmp 19)))]
def ratio_Compare_c6 : MC := (.dreg ratio_Compare_r2 ratio_Compare_t2 (some [4]))
def ratio_Compare_c5 : MC := (.seq ratio_Compare_c6 .ret)
def ratio_Compare_c3 : MC := (.seq ratio_Compare_c4 ratio_Compare_c5)
def ratio_Compare_c1 : MC := (.seq ratio_Compare_c2 ratio_Compare_c3)
def ratio_Compare_ann : Ann := [(0, (some [2, 3], 0, [], [], [])), (1, (some [2, 3], 4, [], [(0, 0), (1, 0), (2, 0), (3, 0)], [])), (2, (some [4], 11, [], [(0, 0), (1, 0), (2, 0), (3, 0), (4, 0), (5, 0), (6, 0), (7, 0), (8, 0), (9, 0), (10, 0)], []))]
theorem ratio_Compare_ok : compF Try.prog Try.f30 ratio_Compare_ann = some (20, ratio_Compare_c1, [(4, none)]) := by kernel_rfl
def ratio_Compare_p1 : St → Prop := X C ratio_Compare_c6 (thenK R (retK R))
theorem ratio_Compare_p1_e (S : St) : ratio_Compare_p1 C R S = Sx.ops C ratio_Compare_r2 (Sx.ops C ratio_Compare_t2 (kq [4] R)) S := rfl
def ratio_Compare_p2 : St → Prop := X C ratio_Compare_c4 (thenK (ratio_Compare_p1 C R) (retK R))
theorem ratio_Compare_p2_e (S : St) : ratio_Compare_p2 C R S = Sx.ops C ratio_Compare_r1 (Sx.ops C ratio_Compare_t1 (kq [2, 3] (ratio_Compare_p1 C R))) S := rfl
def ratio_Compare_p3 : St → Prop := X C ratio_Compare_c2 (thenK (ratio_Compare_p2 C R) (retK R))
theorem ratio_Compare_p3_e (S : St) : ratio_Compare_p3 C R S = Sx.ops C ratio_Compare_r0 (kq [2, 3] (ratio_Compare_p2 C R)) S := rfl
set_option maxRecDepth 100000 in
theorem ratio_Compare_s (S : St) : X C ratio_Compare_c1 (retK R) S = (ratio_Compare_p3 C R) S := rfl
theorem ratio_Compare_start {R : Value → Prop} {args : List Value} {w : World} : type_of% (enter (R := R) (args := args) (w := w) Try.func30 ratio_Compare_ok) := enter Try.func30 ratio_Compare_ok
theorem ratio_Compare_E : type_of% @ratio_Compare_r2.eq_1 ∧ type_of% @ratio_Compare_t2.eq_1 ∧ type_of% @ratio_Compare_p1_e ∧ type_of% @ratio_Compare_r1.eq_1 ∧ type_of% @ratio_Compare_t1.eq_1 ∧ type_of% @ratio_Compare_p2_e ∧ type_of% @ratio_Compare_r0.eq_1 ∧ type_of% @ratio_Compare_p3_e ∧ type_of% @ratio_Compare_s := ⟨@ratio_Compare_r2.eq_1, @ratio_Compare_t2.eq_1, @ratio_Compare_p1_e, @ratio_Compare_r1.eq_1, @ratio_Compare_t1.eq_1, @ratio_Compare_p2_e, @ratio_Compare_r0.eq_1, @ratio_Compare_p3_e, @ratio_Compare_s⟩
def ratio_Floor_r0 : List G := [(some 1, none, (.box true 10 (.tmp 0))), (some 2, none, (.new zW))]
def ratio_Floor_c2 : MC := (.reg ratio_Floor_r0 (some [1, 2]))
def ratio_Floor_r1 : List G := [(some 6, none, (.ld true 10 (.tmp 1))), (some 7, none, (.call false 61 [(.tmp 6)])), (none, none, (.st true 10 (.tmp 1) (.tmp 7)))]
def ratio_Floor_c4 : MC := (.reg ratio_Floor_r1 (some [1, 2]))
def ratio_Floor_r2 : List G := [(some 9, none, (.fa 0 (.tmp 1))), (some 10, none, (.ld true 5 (.tmp 9))), (some 11, none, (.fa 5 (.tmp 1))), (some 12, none, (.ld true 5 (.tmp 11))), (some 13, none, (.call false 55 [(.tmp 10), (.tmp 12)])), (some 8, none, (.mv (.tmp 13))), (some 14, none, (.ex (.tmp 8) 0)), (some 15, none, (.ex (.tmp 8) 1)), (some 16, none, (.ex (.tmp 8) 2)), (some 3, none, (.new zW)), (some 4, none, (.new zW)), (none, none, (.st true 5 (.tmp 3) (.tmp 14))), (none, none, (.st true 5 (.tmp 4) (.tmp 15))), (some 5, none, (.mv (.tmp 16)))]
def ratio_Floor_c6 : MC := (.reg ratio_Floor_r2 (some [2, 3]))
def ratio_Floor_r3 : List G := [(some 17, none, (.ld true 5 (.tmp 3))), (none, none, (.st true 5 (.tmp 2) (.tmp 17)))]
def ratio_Floor_c8 : MC := (.reg ratio_Floor_r3 (some [2]))
def ratio_Floor_c7 : MC := (.seq ratio_Floor_c8 .ret)
def ratio_Floor_c5 : MC := (.seq ratio_Floor_c6 ratio_Floor_c7)
def ratio_Floor_c3 : MC := (.seq ratio_Floor_c4 ratio_Floor_c5)
def ratio_Floor_c1 : MC := (.seq ratio_Floor_c2 ratio_Floor_c3)
def ratio_Floor_ann : Ann := [(0, (some [1, 2], 0, [], [], [])), (1, (some [1, 2], 0, [], [], [])), (2, (some [2, 3], 0, [], [], [])), (3, (some [2], 0, [], [], []))]
theorem ratio_Floor_ok : compF Try.prog Try.f24 ratio_Floor_ann = some (18, ratio_Floor_c1, [(2, some (true, 5))]) := by kernel_rfl
def ratio_Floor_p1 : St → Prop := X C ratio_Floor_c8 (thenK R (retK R))
theorem ratio_Floor_p1_e (S : St) : ratio_Floor_p1 C R S = Sx.ops C ratio_Floor_r3 (kq [2] R) S := rfl
def ratio_Floor_p2 : St → Prop := X C ratio_Floor_c6 (thenK (ratio_Floor_p1 C R) (retK R))
theorem ratio_Floor_p2_e (S : St) : ratio_Floor_p2 C R S = Sx.ops C ratio_Floor_r2 (kq [2, 3] (ratio_Floor_p1 C R)) S := rfl
def ratio_Floor_p3 : St → Prop := X C ratio_Floor_c4 (thenK (ratio_Floor_p2 C R) (retK R))
theorem ratio_Floor_p3_e (S : St) : ratio_Floor_p3 C R S = Sx.ops C ratio_Floor_r1 (kq [1, 2] (ratio_Floor_p2 C R)) S := rfl
def ratio_Floor_p4 : St → Prop := X C ratio_Floor_c2 (thenK (ratio_Floor_p3 C R) (retK R))
theorem ratio_Floor_p4_e (S : St) : ratio_Floor_p4 C R S = Sx.ops C ratio_Floor_r0 (kq [1, 2] (ratio_Floor_p3 C R)) S := rfl
set_option maxRecDepth 100000 in
theorem ratio_Floor_s (S : St) : X C ratio_Floor_c1 (retK R) S = (ratio_Floor_p4 C R) S := rfl
theorem ratio_Floor_start {R : Value → Prop} {args : List Value} {w : World} : type_of% (enter (R := R) (args := args) (w := w) Try.func24 ratio_Floor_ok) := enter Try.func24 ratio_Floor_ok
theorem ratio_Floor_E : type_of% @ratio_Floor_r3.eq_1 ∧ type_of% @ratio_Floor_p1_e ∧ type_of% @ratio_Floor_r2.eq_1 ∧ type_of% @ratio_Floor_p2_e ∧ type_of% @ratio_Floor_r1.eq_1 ∧ type_of% @ratio_Floor_p3_e ∧ type_of% @ratio_Floor_r0.eq_1 ∧ type_of% @ratio_Floor_p4_e ∧ type_of% @ratio_Floor_s := ⟨@ratio_Floor_r3.eq_1, @ratio_Floor_p1_e, @ratio_Floor_r2.eq_1, @ratio_Floor_p2_e, @ratio_Floor_r1.eq_1, @ratio_Floor_p3_e, @ratio_Floor_r0.eq_1, @ratio_Floor_p4_e, @ratio_Floor_s⟩
def ratio_Make_r0 : List G := [(some 2, none, (.box true 5 (.tmp 0))), (some 3, none, (.box true 5 (.tmp 1))), (some 4, none, (.new zR)), (some 5, none, (.mv (.const (.bool false))))]
def ratio_Make_c2 : MC := (.reg ratio_Make_r0 (some [2, 3, 4]))
def ratio_Make_r1 : List G := [(some 13, none, (.ld true 5 (.tmp 2))), (some 14, none, (.call false 51 [(.tmp 13)])), (some 15, none, (.un .not (.tmp 14))), (some 16, none, (.mv (.tmp 15))), (some 17, some (16, false), (.ld true 5 (.tmp 3))), (some 18, some (16, false), (.call false 51 [(.tmp 17)])), (some 19, some (16, false), (.un .not (.tmp 18))), (some 20, none, (.pick (.tmp 16) (.const (.bool true)) (.tmp 19))), (some 21, none, (.mv (.tmp 20))), (some 22, some (21, false), (.ld true 5 (.tmp 3))), (some 23, some (21, false), (.call false 52 [(.tmp 22)])), (some 24, some (21, false), (.bin .eql (.tmp 23) (.const (.int .i64 0)))), (some 25, none, (.pick (.tmp 21) (.const (.bool true)) (.tmp 24)))]
def ratio_Make_c5 : MC := (.reg ratio_Make_r1 (some [2, 3, 4, 25]))
def ratio_Make_r2 : List G := [(some 26, none, (.bd zR [])), (none, none, (.st true 10 (.tmp 4) (.tmp 26))), (some 5, none, (.mv (.const (.bool false))))]
def ratio_Make_c8 : MC := (.reg ratio_Make_r2 (some [4, 5]))
def ratio_Make_c7 : MC := (.seq ratio_Make_c8 .ret)
def ratio_Make_c6 : MC := (.cond (.tmp 25) ratio_Make_c7 .skip)
def ratio_Make_c4 : MC := (.seq ratio_Make_c5 ratio_Make_c6)
def ratio_Make_r3 : List G := [(some 27, none, (.fa 0 (.tmp 3))), (some 28, none, (.ld false 1 (.tmp 27)))]
def ratio_Make_c11 : MC := (.reg ratio_Make_r3 (some [2, 3, 4, 28]))
def ratio_Make_r4 : List G := [(some 29, none, (.ld true 5 (.tmp 2))), (some 30, none, (.call true 53 [(.tmp 29)])), (some 31, none, (.ld true 5 (.tmp 3))), (some 32, none, (.call true 53 [(.tmp 31)]))]
def ratio_Make_t4 : List G := [(none, none, (.st true 5 (.tmp 2) (.tmp 30))), (none, none, (.st true 5 (.tmp 3) (.tmp 32)))]
def ratio_Make_c13 : MC := (.dreg ratio_Make_r4 ratio_Make_t4 (some [2, 3, 4]))
def ratio_Make_c12 : MC := (.cond (.tmp 28) ratio_Make_c13 .skip)
def ratio_Make_c10 : MC := (.seq ratio_Make_c11 ratio_Make_c12)
def ratio_Make_r5 : List G := [(some 33, none, (.ld true 5 (.tmp 2))), (some 34, none, (.ld true 5 (.tmp 3))), (some 35, none, (.call false 54 [(.tmp 33), (.tmp 34)])), (some 6, none, (.new zW)), (none, none, (.st true 5 (.tmp 6) (.tmp 35)))]
def ratio_Make_c15 : MC := (.reg ratio_Make_r5 (some [2, 3, 4, 6]))
def ratio_Make_r6 : List G := [(some 37, none, (.ld true 5 (.tmp 2))), (some 38, none, (.ld true 5 (.tmp 6))), (some 39, none, (.call false 55 [(.tmp 37), (.tmp 38)])), (some 36, none, (.mv (.tmp 39))), (some 40, none, (.ex (.tmp 36) 0)), (some 41, none, (.ex (.tmp 36) 1)), (some 42, none, (.ex (.tmp 36) 2)), (some 7, none, (.new zW)), (some 8, none, (.new zW)), (none, none, (.st true 5 (.tmp 7) (.tmp 40))), (none, none, (.st true 5 (.tmp 8) (.tmp 41))), (some 9, none, (.mv (.tmp 42)))]
def ratio_Make_c17 : MC := (.reg ratio_Make_r6 (some [3, 4, 6, 7]))
def ratio_Make_r7 : List G := [(some 44, none, (.ld true 5 (.tmp 3))), (some 45, none, (.ld true 5 (.tmp 6))), (some 46, none, (.call false 55 [(.tmp 44), (.tmp 45)])), (some 43, none, (.mv (.tmp 46))), (some 47, none, (.ex (.tmp 43) 0)), (some 48, none, (.ex (.tmp 43) 1)), (some 49, none, (.ex (.tmp 43) 2)), (some 10, none, (.new zW)), (some 11, none, (.new zW)), (none, none, (.st true 5 (.tmp 10) (.tmp 47))), (none, none, (.st true 5 (.tmp 11) (.tmp 48))), (some 12, none, (.mv (.tmp 49)))]
def ratio_Make_c19 : MC := (.reg ratio_Make_r7 (some [4, 7, 10]))
def ratio_Make_r8 : List G := [(some 50, none, (.ld true 5 (.tmp 7))), (some 51, none, (.call false 56 [(.tmp 50)])), (some 52, none, (.un .not (.tmp 51))), (some 53, none, (.mv (.tmp 52))), (some 54, some (53, false), (.ld true 5 (.tmp 10))), (some 55, some (53, false), (.call false 56 [(.tmp 54)])), (some 56, some (53, false), (.un .not (.tmp 55))), (some 57, none, (.pick (.tmp 53) (.const (.bool true)) (.tmp 56)))]
def ratio_Make_c22 : MC := (.reg ratio_Make_r8 (some [4, 7, 10, 57]))
def ratio_Make_r9 : List G := [(some 58, none, (.bd zR [])), (none, none, (.st true 10 (.tmp 4) (.tmp 58))), (some 5, none, (.mv (.const (.bool false))))]
def ratio_Make_c25 : MC := (.reg ratio_Make_r9 (some [4, 5]))
def ratio_Make_c24 : MC := (.seq ratio_Make_c25 .ret)
def ratio_Make_c23 : MC := (.cond (.tmp 57) ratio_Make_c24 .skip)
def ratio_Make_c21 : MC := (.seq ratio_Make_c22 ratio_Make_c23)
def ratio_Make_r10 : List G := [(some 59, none, (.ld true 5 (.tmp 7))), (some 60, none, (.ld true 5 (.tmp 10))), (some 61, none, (.bd zR [(0, 5, (.tmp 59)), (5, 5, (.tmp 60))])), (none, none, (.st true 10 (.tmp 4) (.tmp 61))), (some 5, none, (.mv (.const (.bool true))))]
def ratio_Make_c27 : MC := (.reg ratio_Make_r10 (some [4, 5]))
def ratio_Make_c26 : MC := (.seq ratio_Make_c27 .ret)
def ratio_Make_c20 : MC := (.seq ratio_Make_c21 ratio_Make_c26)
def ratio_Make_c18 : MC := (.seq ratio_Make_c19 ratio_Make_c20)
def ratio_Make_c16 : MC := (.seq ratio_Make_c17 ratio_Make_c18)
def ratio_Make_c14 : MC := (.seq ratio_Make_c15 ratio_Make_c16)
def ratio_Make_c9 : MC := (.seq ratio_Make_c10 ratio_Make_c14)
def ratio_Make_c3 : MC := (.seq ratio_Make_c4 ratio_Make_c9)
def ratio_Make_c1 : MC := (.seq ratio_Make_c2 ratio_Make_c3)
def ratio_Make_ann : Ann := [(0, (some [2, 3, 4], 0, [], [], [])), (1, (some [2, 3, 4, 25], 0, [], [], [])), (2, (some [4, 5], 0, [], [], [])), (3, (some [2, 3, 4, 28], 0, [], [], [])), (4, (some [2, 3, 4], 4, [], [(0, 0), (1, 0), (2, 0), (3, 0)], [])), (5, (some [2, 3, 4, 6], 0, [], [], [])), (6, (some [3, 4, 6, 7], 0, [], [], [])), (7, (some [4, 7, 10], 0, [], [], [])), (8, (some [4, 7, 10, 57], 0, [], [], [])), (9, (some [4, 5], 0, [], [], [])), (10, (some [4, 5], 0, [], [], []))]
theorem ratio_Make_ok : compF Try.prog Try.f19 ratio_Make_ann = some (62, ratio_Make_c1, [(4, some (true, 10)), (5, none)]) := by kernel_rfl
def ratio_Make_p1 : St → Prop := X C ratio_Make_c27 (thenK R (retK R))
theorem ratio_Make_p1_e (S : St) : ratio_Make_p1 C R S = Sx.ops C ratio_Make_r10 (kq [4, 5] R) S := rfl
def ratio_Make_p3 : St → Prop := X C ratio_Make_c25 (thenK R (thenK (ratio_Make_p1 C R) (retK R)))
theorem ratio_Make_p3_e (S : St) : ratio_Make_p3 C R S = Sx.ops C ratio_Make_r9 (kq [4, 5] R) S := rfl
def ratio_Make_p2 : St → Prop := X C ratio_Make_c23 (thenK (ratio_Make_p1 C R) (retK R))
theorem ratio_Make_p2_e (S : St) : ratio_Make_p2 C R S = condX (S.ev (.tmp 57)) (ratio_Make_p3 C R) (ratio_Make_p1 C R) S := rfl
def ratio_Make_p4 : St → Prop := X C ratio_Make_c22 (thenK (ratio_Make_p2 C R) (thenK (ratio_Make_p1 C R) (retK R)))
theorem ratio_Make_p4_e (S : St) : ratio_Make_p4 C R S = Sx.ops C ratio_Make_r8 (kq [4, 7, 10, 57] (ratio_Make_p2 C R)) S := rfl
def ratio_Make_p5 : St → Prop := X C ratio_Make_c19 (thenK (ratio_Make_p4 C R) (retK R))
theorem ratio_Make_p5_e (S : St) : ratio_Make_p5 C R S = Sx.ops C ratio_Make_r7 (kq [4, 7, 10] (ratio_Make_p4 C R)) S := rfl
def ratio_Make_p6 : St → Prop := X C ratio_Make_c17 (thenK (ratio_Make_p5 C R) (retK R))
theorem ratio_Make_p6_e (S : St) : ratio_Make_p6 C R S = Sx.ops C ratio_Make_r6 (kq [3, 4, 6, 7] (ratio_Make_p5 C R)) S := rfl
def ratio_Make_p7 : St → Prop := X C ratio_Make_c15 (thenK (ratio_Make_p6 C R) (retK R))
theorem ratio_Make_p7_e (S : St) : ratio_Make_p7 C R S = Sx.ops C ratio_Make_r5 (kq [2, 3, 4, 6] (ratio_Make_p6 C R)) S := rfl
def ratio_Make_p9 : St → Prop := X C ratio_Make_c13 (thenK (ratio_Make_p7 C R) (retK R))
theorem ratio_Make_p9_e (S : St) : ratio_Make_p9 C R S = Sx.ops C ratio_Make_r4 (Sx.ops C ratio_Make_t4 (kq [2, 3, 4] (ratio_Make_p7 C R))) S := rfl
def ratio_Make_p8 : St → Prop := X C ratio_Make_c12 (thenK (ratio_Make_p7 C R) (retK R))
theorem ratio_Make_p8_e (S : St) : ratio_Make_p8 C R S = condX (S.ev (.tmp 28)) (ratio_Make_p9 C R) (ratio_Make_p7 C R) S := rfl
def ratio_Make_p10 : St → Prop := X C ratio_Make_c11 (thenK (ratio_Make_p8 C R) (thenK (ratio_Make_p7 C R) (retK R)))
theorem ratio_Make_p10_e (S : St) : ratio_Make_p10 C R S = Sx.ops C ratio_Make_r3 (kq [2, 3, 4, 28] (ratio_Make_p8 C R)) S := rfl
def ratio_Make_p12 : St → Prop := X C ratio_Make_c8 (thenK R (thenK (ratio_Make_p10 C R) (retK R)))
theorem ratio_Make_p12_e (S : St) : ratio_Make_p12 C R S = Sx.ops C ratio_Make_r2 (kq [4, 5] R) S := rfl
def ratio_Make_p11 : St → Prop := X C ratio_Make_c6 (thenK (ratio_Make_p10 C R) (retK R))
theorem ratio_Make_p11_e (S : St) : ratio_Make_p11 C R S = condX (S.ev (.tmp 25)) (ratio_Make_p12 C R) (ratio_Make_p10 C R) S := rfl
def ratio_Make_p13 : St → Prop := X C ratio_Make_c5 (thenK (ratio_Make_p11 C R) (thenK (ratio_Make_p10 C R) (retK R)))
theorem ratio_Make_p13_e (S : St) : ratio_Make_p13 C R S = Sx.ops C ratio_Make_r1 (kq [2, 3, 4, 25] (ratio_Make_p11 C R)) S := rfl
def ratio_Make_p14 : St → Prop := X C ratio_Make_c2 (thenK (ratio_Make_p13 C R) (retK R))
theorem ratio_Make_p14_e (S : St) : ratio_Make_p14 C R S = Sx.ops C ratio_Make_r0 (kq [2, 3, 4] (ratio_Make_p13 C R)) S := rfl
set_option maxRecDepth 100000 in
theorem ratio_Make_s (S : St) : X C ratio_Make_c1 (retK R) S = (ratio_Make_p14 C R) S := rfl
theorem ratio_Make_start {R : Value → Prop} {args : List Value} {w : World} : type_of% (enter (R := R) (args := args) (w := w) Try.func19 ratio_Make_ok) := enter Try.func19 ratio_Make_ok
theorem ratio_Make_E : type_of% @ratio_Make_r10.eq_1 ∧ type_of% @ratio_Make_p1_e ∧ type_of% @ratio_Make_r9.eq_1 ∧ type_of% @ratio_Make_p3_e ∧ type_of% @ratio_Make_p2_e ∧ type_of% @ratio_Make_r8.eq_1 ∧ type_of% @ratio_Make_p4_e ∧ type_of% @ratio_Make_r7.eq_1 ∧ type_of% @ratio_Make_p5_e ∧ type_of% @ratio_Make_r6.eq_1 ∧ type_of% @ratio_Make_p6_e ∧ type_of% @ratio_Make_r5.eq_1 ∧ type_of% @ratio_Make_p7_e ∧ type_of% @ratio_Make_r4.eq_1 ∧ type_of% @ratio_Make_t4.eq_1 ∧ type_of% @ratio_Make_p9_e ∧ type_of% @ratio_Make_p8_e ∧ type_of% @ratio_Make_r3.eq_1 ∧ type_of% @ratio_Make_p10_e ∧ type_of% @ratio_Make_r2.eq_1 ∧ type_of% @ratio_Make_p12_e ∧ type_of% @ratio_Make_p11_e ∧ type_of% @ratio_Make_r1.eq_1 ∧ type_of% @ratio_Make_p13_e ∧ type_of% @ratio_Make_r0.eq_1 ∧ type_of% @ratio_Make_p14_e ∧ type_of% @ratio_Make_s := ⟨@ratio_Make_r10.eq_1, @ratio_Make_p1_e, @ratio_Make_r9.eq_1, @ratio_Make_p3_e, @ratio_Make_p2_e, @ratio_Make_r8.eq_1, @ratio_Make_p4_e, @ratio_Make_r7.eq_1, @ratio_Make_p5_e, @ratio_Make_r6.eq_1, @ratio_Make_p6_e, @ratio_Make_r5.eq_1, @ratio_Make_p7_e, @ratio_Make_r4.eq_1, @ratio_Make_t4.eq_1, @ratio_Make_p9_e, @ratio_Make_p8_e, @ratio_Make_r3.eq_1, @ratio_Make_p10_e, @ratio_Make_r2.eq_1, @ratio_Make_p12_e, @ratio_Make_p11_e, @ratio_Make_r1.eq_1, @ratio_Make_p13_e, @ratio_Make_r0.eq_1, @ratio_Make_p14_e, @ratio_Make_s⟩
def ratio_Of_r0 : List G := [(some 2, none, (.new zR))]
def ratio_Of_c2 : MC := (.reg ratio_Of_r0 (some [0, 2]))
def ratio_Of_r1 : List G := [(some 3, none, (.mv (.tmp 0))), (some 4, none, (.call false 60 [(.tmp 3)])), (some 5, none, (.call false 60 [(.const (.int .i64 1))])), (some 6, none, (.bd zR [(0, 5, (.tmp 4)), (5, 5, (.tmp 5))])), (none, none, (.st true 10 (.tmp 2) (.tmp 6)))]
def ratio_Of_c4 : MC := (.reg ratio_Of_r1 (some [2]))
def ratio_Of_c3 : MC := (.seq ratio_Of_c4 .ret)
def ratio_Of_c1 : MC := (.seq ratio_Of_c2 ratio_Of_c3)
def ratio_Of_ann : Ann := [(0, (some [0, 2], 0, [], [], [])), (1, (some [2], 0, [], [], []))]
theorem ratio_Of_ok : compF Try.prog Try.f36 ratio_Of_ann = some (7, ratio_Of_c1, [(2, some (true, 10))]) := by kernel_rfl
def ratio_Of_p1 : St → Prop := X C ratio_Of_c4 (thenK R (retK R))
theorem ratio_Of_p1_e (S : St) : ratio_Of_p1 C R S = Sx.ops C ratio_Of_r1 (kq [2] R) S := rfl
def ratio_Of_p2 : St → Prop := X C ratio_Of_c2 (thenK (ratio_Of_p1 C R) (retK R))
theorem ratio_Of_p2_e (S : St) : ratio_Of_p2 C R S = Sx.ops C ratio_Of_r0 (kq [0, 2] (ratio_Of_p1 C R)) S := rfl
set_option maxRecDepth 100000 in
theorem ratio_Of_s (S : St) : X C ratio_Of_c1 (retK R) S = (ratio_Of_p2 C R) S := rfl
theorem ratio_Of_start {R : Value → Prop} {args : List Value} {w : World} : type_of% (enter (R := R) (args := args) (w := w) Try.func36 ratio_Of_ok) := enter Try.func36 ratio_Of_ok
theorem ratio_Of_E : type_of% @ratio_Of_r1.eq_1 ∧ type_of% @ratio_Of_p1_e ∧ type_of% @ratio_Of_r0.eq_1 ∧ type_of% @ratio_Of_p2_e ∧ type_of% @ratio_Of_s := ⟨@ratio_Of_r1.eq_1, @ratio_Of_p1_e, @ratio_Of_r0.eq_1, @ratio_Of_p2_e, @ratio_Of_s⟩
def ratio_Valid_r0 : List G := [(some 1, none, (.box true 10 (.tmp 0))), (some 2, none, (.mv (.const (.bool false))))]
def ratio_Valid_c2 : MC := (.reg ratio_Valid_r0 (some [1]))
def ratio_Valid_r1 : List G := [(some 3, none, (.fa 0 (.tmp 1))), (some 4, none, (.ld true 5 (.tmp 3))), (some 5, none, (.call false 51 [(.tmp 4)])), (some 6, none, (.mv (.tmp 5))), (some 7, some (6, true), (.fa 5 (.tmp 1))), (some 8, some (6, true), (.ld true 5 (.tmp 7))), (some 9, some (6, true), (.call false 51 [(.tmp 8)])), (some 10, none, (.pick (.tmp 6) (.tmp 9) (.const (.bool false)))), (some 11, none, (.mv (.tmp 10))), (some 12, some (11, true), (.fa 5 (.tmp 1))), (some 13, some (11, true), (.ld true 5 (.tmp 12))), (some 14, some (11, true), (.call false 52 [(.tmp 13)])), (some 15, some (11, true), (.bin .gtr (.tmp 14) (.const (.int .i64 0)))), (some 16, none, (.pick (.tmp 11) (.tmp 15) (.const (.bool false)))), (some 17, none, (.mv (.tmp 16))), (some 18, some (17, true), (.fa 0 (.tmp 1))), (some 19, some (17, true), (.ld true 5 (.tmp 18))), (some 20, some (17, true), (.call false 56 [(.tmp 19)])), (some 21, none, (.pick (.tmp 17) (.tmp 20) (.const (.bool false)))), (some 22, none, (.mv (.tmp 21))), (some 23, some (22, true), (.fa 5 (.tmp 1))), (some 24, some (22, true), (.ld true 5 (.tmp 23))), (some 25, some (22, true), (.call false 56 [(.tmp 24)])), (some 26, none, (.pick (.tmp 22) (.tmp 25) (.const (.bool false)))), (some 27, none, (.mv (.tmp 26))), (some 28, some (27, true), (.fa 0 (.tmp 1))), (some 29, some (27, true), (.ld true 5 (.tmp 28))), (some 30, some (27, true), (.fa 5 (.tmp 1))), (some 31, some (27, true), (.ld true 5 (.tmp 30))), (some 32, some (27, true), (.call false 54 [(.tmp 29), (.tmp 31)])), (some 33, some (27, true), (.call false 60 [(.const (.int .i64 1))])), (some 34, some (27, true), (.eqg false 25 (.tmp 32) (.tmp 33))), (some 35, none, (.pick (.tmp 27) (.tmp 34) (.const (.bool false)))), (some 2, none, (.mv (.tmp 35)))]
def ratio_Valid_c4 : MC := (.reg ratio_Valid_r1 (some [2]))
def ratio_Valid_c3 : MC := (.seq ratio_Valid_c4 .ret)
def ratio_Valid_c1 : MC := (.seq ratio_Valid_c2 ratio_Valid_c3)
def ratio_Valid_ann : Ann := [(0, (some [1], 0, [], [], [])), (1, (some [2], 0, [], [], []))]
theorem ratio_Valid_ok : compF Try.prog Try.f21 ratio_Valid_ann = some (36, ratio_Valid_c1, [(2, none)]) := by kernel_rfl
def ratio_Valid_p1 : St → Prop := X C ratio_Valid_c4 (thenK R (retK R))
theorem ratio_Valid_p1_e (S : St) : ratio_Valid_p1 C R S = Sx.ops C ratio_Valid_r1 (kq [2] R) S := rfl
def ratio_Valid_p2 : St → Prop := X C ratio_Valid_c2 (thenK (ratio_Valid_p1 C R) (retK R))
theorem ratio_Valid_p2_e (S : St) : ratio_Valid_p2 C R S = Sx.ops C ratio_Valid_r0 (kq [1] (ratio_Valid_p1 C R)) S := rfl
set_option maxRecDepth 100000 in
theorem ratio_Valid_s (S : St) : X C ratio_Valid_c1 (retK R) S = (ratio_Valid_p2 C R) S := rfl
theorem ratio_Valid_start {R : Value → Prop} {args : List Value} {w : World} : type_of% (enter (R := R) (args := args) (w := w) Try.func21 ratio_Valid_ok) := enter Try.func21 ratio_Valid_ok
theorem ratio_Valid_E : type_of% @ratio_Valid_r1.eq_1 ∧ type_of% @ratio_Valid_p1_e ∧ type_of% @ratio_Valid_r0.eq_1 ∧ type_of% @ratio_Valid_p2_e ∧ type_of% @ratio_Valid_s := ⟨@ratio_Valid_r1.eq_1, @ratio_Valid_p1_e, @ratio_Valid_r0.eq_1, @ratio_Valid_p2_e, @ratio_Valid_s⟩
def ratio_clean_r0 : List G := [(some 1, none, (.box true 10 (.tmp 0))), (some 2, none, (.new zR))]
def ratio_clean_c2 : MC := (.reg ratio_clean_r0 (some [1, 2]))
def ratio_clean_r1 : List G := [(some 3, none, (.ld true 10 (.tmp 1))), (some 4, none, (.call false 21 [(.tmp 3)])), (some 5, none, (.un .not (.tmp 4)))]
def ratio_clean_c5 : MC := (.reg ratio_clean_r1 (some [1, 2, 5]))
def ratio_clean_r2 : List G := [(some 6, none, (.call false 36 [(.const (.int .i64 0))])), (none, none, (.st true 10 (.tmp 2) (.tmp 6)))]
def ratio_clean_c8 : MC := (.reg ratio_clean_r2 (some [2]))
def ratio_clean_c7 : MC := (.seq ratio_clean_c8 .ret)
def ratio_clean_c6 : MC := (.cond (.tmp 5) ratio_clean_c7 .skip)
def ratio_clean_c4 : MC := (.seq ratio_clean_c5 ratio_clean_c6)
def ratio_clean_r3 : List G := [(some 7, none, (.ld true 10 (.tmp 1))), (none, none, (.st true 10 (.tmp 2) (.tmp 7)))]
def ratio_clean_c10 : MC := (.reg ratio_clean_r3 (some [2]))
def ratio_clean_c9 : MC := (.seq ratio_clean_c10 .ret)
def ratio_clean_c3 : MC := (.seq ratio_clean_c4 ratio_clean_c9)
def ratio_clean_c1 : MC := (.seq ratio_clean_c2 ratio_clean_c3)
def ratio_clean_ann : Ann := [(0, (some [1, 2], 0, [], [], [])), (1, (some [1, 2, 5], 0, [], [], [])), (2, (some [2], 0, [], [], [])), (3, (some [2], 0, [], [], []))]
theorem ratio_clean_ok : compF Try.prog Try.f61 ratio_clean_ann = some (8, ratio_clean_c1, [(2, some (true, 10))]) := by kernel_rfl
def ratio_clean_p1 : St → Prop := X C ratio_clean_c10 (thenK R (retK R))
theorem ratio_clean_p1_e (S : St) : ratio_clean_p1 C R S = Sx.ops C ratio_clean_r3 (kq [2] R) S := rfl
def ratio_clean_p3 : St → Prop := X C ratio_clean_c8 (thenK R (thenK (ratio_clean_p1 C R) (retK R)))
theorem ratio_clean_p3_e (S : St) : ratio_clean_p3 C R S = Sx.ops C ratio_clean_r2 (kq [2] R) S := rfl
def ratio_clean_p2 : St → Prop := X C ratio_clean_c6 (thenK (ratio_clean_p1 C R) (retK R))
theorem ratio_clean_p2_e (S : St) : ratio_clean_p2 C R S = condX (S.ev (.tmp 5)) (ratio_clean_p3 C R) (ratio_clean_p1 C R) S := rfl
def ratio_clean_p4 : St → Prop := X C ratio_clean_c5 (thenK (ratio_clean_p2 C R) (thenK (ratio_clean_p1 C R) (retK R)))
theorem ratio_clean_p4_e (S : St) : ratio_clean_p4 C R S = Sx.ops C ratio_clean_r1 (kq [1, 2, 5] (ratio_clean_p2 C R)) S := rfl
def ratio_clean_p5 : St → Prop := X C ratio_clean_c2 (thenK (ratio_clean_p4 C R) (retK R))
theorem ratio_clean_p5_e (S : St) : ratio_clean_p5 C R S = Sx.ops C ratio_clean_r0 (kq [1, 2] (ratio_clean_p4 C R)) S := rfl
set_option maxRecDepth 100000 in
theorem ratio_clean_s (S : St) : X C ratio_clean_c1 (retK R) S = (ratio_clean_p5 C R) S := rfl
theorem ratio_clean_start {R : Value → Prop} {args : List Value} {w : World} : type_of% (enter (R := R) (args := args) (w := w) Try.func61 ratio_clean_ok) := enter Try.func61 ratio_clean_ok
theorem ratio_clean_E : type_of% @ratio_clean_r3.eq_1 ∧ type_of% @ratio_clean_p1_e ∧ type_of% @ratio_clean_r2.eq_1 ∧ type_of% @ratio_clean_p3_e ∧ type_of% @ratio_clean_p2_e ∧ type_of% @ratio_clean_r1.eq_1 ∧ type_of% @ratio_clean_p4_e ∧ type_of% @ratio_clean_r0.eq_1 ∧ type_of% @ratio_clean_p5_e ∧ type_of% @ratio_clean_s := ⟨@ratio_clean_r3.eq_1, @ratio_clean_p1_e, @ratio_clean_r2.eq_1, @ratio_clean_p3_e, @ratio_clean_p2_e, @ratio_clean_r1.eq_1, @ratio_clean_p4_e, @ratio_clean_r0.eq_1, @ratio_clean_p5_e, @ratio_clean_s⟩
def ratio_divisor_r0 : List G := [(some 2, none, (.box true 5 (.tmp 0))), (some 3, none, (.box true 5 (.tmp 1))), (some 4, none, (.new zW))]
def ratio_divisor_c2 : MC := (.reg ratio_divisor_r0 (some [2, 3, 4]))
def ratio_divisor_r1 : List G := [(some 8, none, (.fa 0 (.tmp 2))), (none, none, (.st false 1 (.tmp 8) (.const (.bool false)))), (some 9, none, (.fa 0 (.tmp 3))), (none, none, (.st false 1 (.tmp 9) (.const (.bool false))))]
def ratio_divisor_c4 : MC := (.reg ratio_divisor_r1 (some [2, 3, 4]))
def ratio_divisor_r2 : List G := [(some 10, none, (.ld true 5 (.tmp 3))), (some 11, none, (.call false 52 [(.tmp 10)])), (some 12, none, (.bin .neq (.tmp 11) (.const (.int .i64 0))))]
def ratio_divisor_c10 : MC := (.reg ratio_divisor_r2 (some [2, 3, 4, 12]))
def ratio_divisor_c11 : MC := (.cond (.tmp 12) .skip (.exit 0))
def ratio_divisor_c9 : MC := (.seq ratio_divisor_c10 ratio_divisor_c11)
def ratio_divisor_r3 : List G := [(some 14, none, (.ld true 5 (.tmp 2))), (some 15, none, (.ld true 5 (.tmp 3))), (some 16, none, (.call false 55 [(.tmp 14), (.tmp 15)])), (some 13, none, (.mv (.tmp 16))), (some 17, none, (.ex (.tmp 13) 0)), (some 18, none, (.ex (.tmp 13) 1)), (some 19, none, (.ex (.tmp 13) 2)), (some 5, none, (.new zW)), (some 6, none, (.new zW)), (none, none, (.st true 5 (.tmp 5) (.tmp 17))), (none, none, (.st true 5 (.tmp 6) (.tmp 18))), (some 7, none, (.mv (.tmp 19)))]
def ratio_divisor_c14 : MC := (.reg ratio_divisor_r3 (some [2, 3, 4, 6]))
def ratio_divisor_o4 : List (List G) := [[(some 20, none, (.ld true 5 (.tmp 3))), (some 21, none, (.ld true 5 (.tmp 6))), (none, none, (.st true 5 (.tmp 2) (.tmp 20))), (none, none, (.st true 5 (.tmp 3) (.tmp 21)))],
  [(some 20, none, (.ld true 5 (.tmp 3))), (none, none, (.st true 5 (.tmp 2) (.tmp 20))), (some 21, none, (.ld true 5 (.tmp 6))), (none, none, (.st true 5 (.tmp 3) (.tmp 21)))],
  [(some 21, none, (.ld true 5 (.tmp 6))), (some 20, none, (.ld true 5 (.tmp 3))), (none, none, (.st true 5 (.tmp 2) (.tmp 20))), (none, none, (.st true 5 (.tmp 3) (.tmp 21)))]]
def ratio_divisor_c15 : MC := (.areg [] ratio_divisor_o4 (some [2, 3, 4]))
def ratio_divisor_c13 : MC := (.seq ratio_divisor_c14 ratio_divisor_c15)
def ratio_divisor_c12 : MC := (.block 1 ratio_divisor_c13)
def ratio_divisor_c8 : MC := (.seq ratio_divisor_c9 ratio_divisor_c12)
def ratio_divisor_c7 : MC := (.loop ratio_divisor_c8)
def ratio_divisor_c6 : MC := (.block 0 ratio_divisor_c7)
def ratio_divisor_r5 : List G := [(some 22, none, (.ld true 5 (.tmp 2))), (none, none, (.st true 5 (.tmp 4) (.tmp 22)))]
def ratio_divisor_c17 : MC := (.reg ratio_divisor_r5 (some [4]))
def ratio_divisor_c16 : MC := (.seq ratio_divisor_c17 .ret)
def ratio_divisor_c5 : MC := (.seq ratio_divisor_c6 ratio_divisor_c16)
def ratio_divisor_c3 : MC := (.seq ratio_divisor_c4 ratio_divisor_c5)
def ratio_divisor_c1 : MC := (.seq ratio_divisor_c2 ratio_divisor_c3)
def ratio_divisor_ann : Ann := [(0, (some [2, 3, 4], 0, [], [], [])), (1, (some [2, 3, 4], 0, [], [], [])), (2, (some [2, 3, 4, 12], 0, [], [], [])), (3, (some [2, 3, 4, 6], 0, [], [], [])), (4, (some [2, 3, 4], 99999, [], [], [])), (5, (some [4], 0, [], [], []))]
theorem ratio_divisor_ok : compF Try.prog Try.f54 ratio_divisor_ann = some (23, ratio_divisor_c1, [(4, some (true, 5))]) := by kernel_rfl
def ratio_divisor_p1 : St → Prop := X C ratio_divisor_c17 (thenK R (retK R))
theorem ratio_divisor_p1_e (S : St) : ratio_divisor_p1 C R S = Sx.ops C ratio_divisor_r5 (kq [4] R) S := rfl
def ratio_divisor_k1 : Exit → St → Prop := (blockK 0 (thenK (ratio_divisor_p1 C R) (retK R)))
def ratio_divisor_p3 : St → Prop := X C ratio_divisor_c15 (blockK 1 (thenK L1 (ratio_divisor_k1 C R)))
theorem ratio_divisor_p3_e (S : St) : ratio_divisor_p3 C R L1 S = areX C [] ratio_divisor_o4 (kq [2, 3, 4] L1) S := rfl
def ratio_divisor_p4 : St → Prop := X C ratio_divisor_c14 (thenK (ratio_divisor_p3 C R L1) (blockK 1 (thenK L1 (ratio_divisor_k1 C R))))
theorem ratio_divisor_p4_e (S : St) : ratio_divisor_p4 C R L1 S = Sx.ops C ratio_divisor_r3 (kq [2, 3, 4, 6] (ratio_divisor_p3 C R L1)) S := rfl
def ratio_divisor_k2 : Exit → St → Prop := (thenK (ratio_divisor_p4 C R L1) (thenK L1 (ratio_divisor_k1 C R)))
def ratio_divisor_p5 : St → Prop := X C ratio_divisor_c11 (ratio_divisor_k2 C R L1)
theorem ratio_divisor_p5_e (S : St) : ratio_divisor_p5 C R L1 S = condX (S.ev (.tmp 12)) (ratio_divisor_p4 C R L1) (ratio_divisor_p1 C R) S := rfl
def ratio_divisor_p6 : St → Prop := X C ratio_divisor_c10 (thenK (ratio_divisor_p5 C R L1) (ratio_divisor_k2 C R L1))
theorem ratio_divisor_p6_e (S : St) : ratio_divisor_p6 C R L1 S = Sx.ops C ratio_divisor_r2 (kq [2, 3, 4, 12] (ratio_divisor_p5 C R L1)) S := rfl
def ratio_divisor_p2 : St → Prop := X C ratio_divisor_c7 (ratio_divisor_k1 C R)
theorem ratio_divisor_p2_l (S : St) : ratio_divisor_p2 C R S = LX C (fun L1 => (ratio_divisor_p6 C R L1)) S := rfl
def ratio_divisor_p7 : St → Prop := X C ratio_divisor_c4 (thenK (ratio_divisor_p2 C R) (retK R))
theorem ratio_divisor_p7_e (S : St) : ratio_divisor_p7 C R S = Sx.ops C ratio_divisor_r1 (kq [2, 3, 4] (ratio_divisor_p2 C R)) S := rfl
def ratio_divisor_p8 : St → Prop := X C ratio_divisor_c2 (thenK (ratio_divisor_p7 C R) (retK R))
theorem ratio_divisor_p8_e (S : St) : ratio_divisor_p8 C R S = Sx.ops C ratio_divisor_r0 (kq [2, 3, 4] (ratio_divisor_p7 C R)) S := rfl
set_option maxRecDepth 100000 in
theorem ratio_divisor_s (S : St) : X C ratio_divisor_c1 (retK R) S = (ratio_divisor_p8 C R) S := rfl
theorem ratio_divisor_start {R : Value → Prop} {args : List Value} {w : World} : type_of% (enter (R := R) (args := args) (w := w) Try.func54 ratio_divisor_ok) := enter Try.func54 ratio_divisor_ok
theorem ratio_divisor_E : type_of% @ratio_divisor_r5.eq_1 ∧ type_of% @ratio_divisor_p1_e ∧ type_of% @ratio_divisor_o4.eq_1 ∧ type_of% @ratio_divisor_p3_e ∧ type_of% @ratio_divisor_r3.eq_1 ∧ type_of% @ratio_divisor_p4_e ∧ type_of% @ratio_divisor_p5_e ∧ type_of% @ratio_divisor_r2.eq_1 ∧ type_of% @ratio_divisor_p6_e ∧ type_of% @ratio_divisor_r1.eq_1 ∧ type_of% @ratio_divisor_p7_e ∧ type_of% @ratio_divisor_r0.eq_1 ∧ type_of% @ratio_divisor_p8_e ∧ type_of% @ratio_divisor_s := ⟨@ratio_divisor_r5.eq_1, @ratio_divisor_p1_e, @ratio_divisor_o4.eq_1, @ratio_divisor_p3_e, @ratio_divisor_r3.eq_1, @ratio_divisor_p4_e, @ratio_divisor_p5_e, @ratio_divisor_r2.eq_1, @ratio_divisor_p6_e, @ratio_divisor_r1.eq_1, @ratio_divisor_p7_e, @ratio_divisor_r0.eq_1, @ratio_divisor_p8_e, @ratio_divisor_s⟩
def ratio_product_r0 : List G := [(some 2, none, (.box true 5 (.tmp 0))), (some 3, none, (.box true 5 (.tmp 1))), (some 4, none, (.new zW))]
def ratio_product_c2 : MC := (.reg ratio_product_r0 (some [2, 3, 4]))
def ratio_product_r1 : List G := [(some 8, none, (.ld true 5 (.tmp 2))), (some 9, none, (.ld true 5 (.tmp 3))), (some 10, none, (.call false 91 [(.tmp 8), (.tmp 9)])), (some 7, none, (.mv (.tmp 10))), (some 11, none, (.ex (.tmp 7) 0)), (some 12, none, (.ex (.tmp 7) 1)), (some 5, none, (.new zW)), (none, none, (.st true 5 (.tmp 5) (.tmp 11))), (some 6, none, (.mv (.tmp 12)))]
def ratio_product_c4 : MC := (.reg ratio_product_r1 (some [4, 5]))
def ratio_product_r2 : List G := [(some 13, none, (.ld true 5 (.tmp 5))), (none, none, (.st true 5 (.tmp 4) (.tmp 13)))]
def ratio_product_c6 : MC := (.reg ratio_product_r2 (some [4]))
def ratio_product_c5 : MC := (.seq ratio_product_c6 .ret)
def ratio_product_c3 : MC := (.seq ratio_product_c4 ratio_product_c5)
def ratio_product_c1 : MC := (.seq ratio_product_c2 ratio_product_c3)
def ratio_product_ann : Ann := [(0, (some [2, 3, 4], 0, [], [], [])), (1, (some [4, 5], 0, [], [], [])), (2, (some [4], 0, [], [], []))]
theorem ratio_product_ok : compF Try.prog Try.f63 ratio_product_ann = some (14, ratio_product_c1, [(4, some (true, 5))]) := by kernel_rfl
def ratio_product_p1 : St → Prop := X C ratio_product_c6 (thenK R (retK R))
theorem ratio_product_p1_e (S : St) : ratio_product_p1 C R S = Sx.ops C ratio_product_r2 (kq [4] R) S := rfl
def ratio_product_p2 : St → Prop := X C ratio_product_c4 (thenK (ratio_product_p1 C R) (retK R))
theorem ratio_product_p2_e (S : St) : ratio_product_p2 C R S = Sx.ops C ratio_product_r1 (kq [4, 5] (ratio_product_p1 C R)) S := rfl
def ratio_product_p3 : St → Prop := X C ratio_product_c2 (thenK (ratio_product_p2 C R) (retK R))
theorem ratio_product_p3_e (S : St) : ratio_product_p3 C R S = Sx.ops C ratio_product_r0 (kq [2, 3, 4] (ratio_product_p2 C R)) S := rfl
set_option maxRecDepth 100000 in
theorem ratio_product_s (S : St) : X C ratio_product_c1 (retK R) S = (ratio_product_p3 C R) S := rfl
theorem ratio_product_start {R : Value → Prop} {args : List Value} {w : World} : type_of% (enter (R := R) (args := args) (w := w) Try.func63 ratio_product_ok) := enter Try.func63 ratio_product_ok
theorem ratio_product_E : type_of% @ratio_product_r2.eq_1 ∧ type_of% @ratio_product_p1_e ∧ type_of% @ratio_product_r1.eq_1 ∧ type_of% @ratio_product_p2_e ∧ type_of% @ratio_product_r0.eq_1 ∧ type_of% @ratio_product_p3_e ∧ type_of% @ratio_product_s := ⟨@ratio_product_r2.eq_1, @ratio_product_p1_e, @ratio_product_r1.eq_1, @ratio_product_p2_e, @ratio_product_r0.eq_1, @ratio_product_p3_e, @ratio_product_s⟩
def ratio_small_r0 : List G := [(some 1, none, (.box true 5 (.tmp 0))), (some 2, none, (.mv (.const (.bool false))))]
def ratio_small_c2 : MC := (.reg ratio_small_r0 (some [1]))
def ratio_small_r1 : List G := [(some 3, none, (.fa 1 (.tmp 1))), (some 4, none, (.ia 4 1 (.tmp 3) (.const (.int .i64 3)))), (some 5, none, (.ld false 1 (.tmp 4))), (some 6, none, (.bin .eql (.tmp 5) (.const (.int .u64 0)))), (some 7, none, (.mv (.tmp 6))), (some 8, some (7, true), (.fa 1 (.tmp 1))), (some 9, some (7, true), (.ia 4 1 (.tmp 8) (.const (.int .i64 2)))), (some 10, some (7, true), (.ld false 1 (.tmp 9))), (some 11, some (7, true), (.bin .eql (.tmp 10) (.const (.int .u64 0)))), (some 12, none, (.pick (.tmp 7) (.tmp 11) (.const (.bool false)))), (some 13, none, (.mv (.tmp 12))), (some 14, some (13, true), (.fa 1 (.tmp 1))), (some 15, some (13, true), (.ia 4 1 (.tmp 14) (.const (.int .i64 1)))), (some 16, some (13, true), (.ld false 1 (.tmp 15))), (some 17, some (13, true), (.bin .shr (.tmp 16) (.const (.int .u64 63)))), (some 18, some (13, true), (.bin .eql (.tmp 17) (.const (.int .u64 0)))), (some 19, none, (.pick (.tmp 13) (.tmp 18) (.const (.bool false)))), (some 2, none, (.mv (.tmp 19)))]
def ratio_small_c4 : MC := (.reg ratio_small_r1 (some [2]))
def ratio_small_c3 : MC := (.seq ratio_small_c4 .ret)
def ratio_small_c1 : MC := (.seq ratio_small_c2 ratio_small_c3)
def ratio_small_ann : Ann := [(0, (some [1], 0, [], [], [])), (1, (some [2], 0, [], [], []))]
theorem ratio_small_ok : compF Try.prog Try.f56 ratio_small_ann = some (20, ratio_small_c1, [(2, none)]) := by kernel_rfl
def ratio_small_p1 : St → Prop := X C ratio_small_c4 (thenK R (retK R))
theorem ratio_small_p1_e (S : St) : ratio_small_p1 C R S = Sx.ops C ratio_small_r1 (kq [2] R) S := rfl
def ratio_small_p2 : St → Prop := X C ratio_small_c2 (thenK (ratio_small_p1 C R) (retK R))
theorem ratio_small_p2_e (S : St) : ratio_small_p2 C R S = Sx.ops C ratio_small_r0 (kq [1] (ratio_small_p1 C R)) S := rfl
set_option maxRecDepth 100000 in
theorem ratio_small_s (S : St) : X C ratio_small_c1 (retK R) S = (ratio_small_p2 C R) S := rfl
theorem ratio_small_start {R : Value → Prop} {args : List Value} {w : World} : type_of% (enter (R := R) (args := args) (w := w) Try.func56 ratio_small_ok) := enter Try.func56 ratio_small_ok
theorem ratio_small_E : type_of% @ratio_small_r1.eq_1 ∧ type_of% @ratio_small_p1_e ∧ type_of% @ratio_small_r0.eq_1 ∧ type_of% @ratio_small_p2_e ∧ type_of% @ratio_small_s := ⟨@ratio_small_r1.eq_1, @ratio_small_p1_e, @ratio_small_r0.eq_1, @ratio_small_p2_e, @ratio_small_s⟩
end Go.Proofs.Ytlanoclibdhpmaa

/- Qa: What calls of the program's ratio give. -/
namespace Go.Proofs.Ytlanoclibdhpmaa
open Go Go.RowKit Sx
set_option linter.unusedVariables false
set_option linter.unusedSimpArgs false
theorem small_plain {m : Int} (h : A4 m) : m < ((2 ^ 127 : Nat) : Int) ↔ lb3 m = 0 ∧ lb2 m = 0 ∧ (lb1 m).fdiv 9223372036854775808 = 0 := by
  have e := mv_me h
  have h0 := lb0_in m
  have h1 := lb1_in m
  have h2 := lb2_in m
  have h3 := lb3_in m
  rw [Int.fdiv_eq_ediv_of_nonneg _ (by decide)]
  rw [show ((2 ^ 127 : Nat) : Int) = 170141183460469231731687303715884105728 by decide]
  unfold MV at e
  unfold U64 at *
  generalize lb0 m = a at *
  generalize lb1 m = b at *
  generalize lb2 m = c at *
  generalize lb3 m = d at *
  clear h
  omega
theorem gx_small {z : Int} (h : Fits z) (W : World) : Gives Try.prog 56 [WX z] W (· = .bool (decide (ab z < ((2 ^ 127 : Nat) : Int)))) := by
  have e := small_plain (m := ab z) ⟨ab_nonneg z, (fits_lt z).1 h⟩
  have hb := lb1_in (ab z)
  have sh : ∀ a : Int, Int.fdiv a (2 ^ 63) = a.fdiv 9223372036854775808 := fun a => rfl
  refine gives_known en_ratio_small ?_
  rw [show decide (ab z < ((2 ^ 127 : Nat) : Int)) = (decide (lb3 (ab z) = 0) && (decide (lb2 (ab z) = 0) && decide ((lb1 (ab z)).fdiv 9223372036854775808 = 0))) by rw [Bool.eq_iff_iff, decide_eq_true_iff, e]; simp]
  clear e h
  refine Sx.known_of (ratio_small_start (args := [WX z]) (by simp) ?_)
  repeat' (first | (simp (disch := omega) only [Sx.sxE, ratio_small_E, Nat.reduceAdd, Nat.reduceEqDiff, Nat.reduceMul, Nat.reduceSub, Int.reduceAdd, Int.reduceSub, Int.reduceMul, Int.reduceNeg, Int.reduceLT, Int.reduceLE, Int.reduceEq, Int.reduceToNat, ↓reduceIte, decide_true, decide_false, true_and, and_true, not_false_eq_true, not_true_eq_false, Bool.not_true, Bool.not_false, Bool.not_not, Int.cast_ofNat_Int, Int.toNat_natCast, Int.reducePow, ne_eq, eq_self, and_self, Nat.le_refl, Nat.reduceLeDiff, Nat.reduceLT, Bool.false_eq_true, List.length_cons, List.length_nil, qxE]) | ((with_reducible apply Sx.cond_beq); (case' h1 => (intro hc; (try simp only [beq_iff_eq.2 hc]))); (case' h2 => (intro hc; (try simp only [beq_eq_false_iff_ne.2 hc])))) | ((with_reducible apply Sx.cond_dec); (case' h1 => (intro hc; (try simp only [decide_eq_true hc]))); (case' h2 => (intro hc; (try simp only [decide_eq_false hc])))) | ((with_reducible apply Sx.cond_of); (case' h1 => (intro hc; (try simp only [hc]))); (case' h2 => (intro hc; (try simp only [hc])))) | ((with_reducible apply Sx.gd_beq); (case' h1 => (intro hc; (try simp only [beq_iff_eq.2 hc]))); (case' h2 => (intro hc; (try simp only [beq_eq_false_iff_ne.2 hc])))) | ((with_reducible apply Sx.gd_dec); (case' h1 => (intro hc; (try simp only [decide_eq_true hc]))); (case' h2 => (intro hc; (try simp only [decide_eq_false hc])))) | ((with_reducible apply Sx.gd_of); (case' h1 => (intro hc; (try simp only [hc]))); (case' h2 => (intro hc; (try simp only [hc])))))
  all_goals (refine vb ?_; rw [Bool.eq_iff_iff]; simp_all)
def gcF (x : Int × Int) : St := ⟨3, [(2, .p 0 0), (3, .p 1 0), (4, .p 2 0)], [(0, wc x.1), (1, wc x.2), (2, [.bool false, .int .u64 0, .int .u64 0, .int .u64 0, .int .u64 0])], ext0⟩
set_option maxRecDepth 100000 in
theorem gx_divisor {z y : Int} (h : Fits z) (h' : Fits y) (W : World) : Gives Try.prog 54 [WX z, WX y] W (· = WX (gc z y)) := by
  refine gives_known en_ratio_divisor ?_
  rw [← gc_abs]
  have f1 : Fits (ab z) := fits_le h (by rw [ab_ab]; exact Int.le_refl _)
  have f2 : Fits (ab y) := fits_le h' (by rw [ab_ab]; exact Int.le_refl _)
  have n1 := ab_nonneg z
  have n2 := ab_nonneg y
  have g1 := sg_ab z
  have g2 := sg_ab y
  have a1 := ab_ab z
  have a2 := ab_ab y
  clear h h'
  refine Sx.known_of (ratio_divisor_start (args := [WX z, WX y]) (by simp) ?_)
  repeat' (first | (simp (disch := omega) only [Sx.sxE, ratio_divisor_E, Nat.reduceAdd, Nat.reduceEqDiff, Nat.reduceMul, Nat.reduceSub, Int.reduceAdd, Int.reduceSub, Int.reduceMul, Int.reduceNeg, Int.reduceLT, Int.reduceLE, Int.reduceEq, Int.reduceToNat, ↓reduceIte, decide_true, decide_false, true_and, and_true, not_false_eq_true, not_true_eq_false, Bool.not_true, Bool.not_false, Bool.not_not, Int.cast_ofNat_Int, Int.toNat_natCast, Int.reducePow, ne_eq, eq_self, and_self, Nat.le_refl, Nat.reduceLeDiff, Nat.reduceLT, Bool.false_eq_true, List.length_cons, List.length_nil, qxE]))
  rw [ratio_divisor_p2_l]
  refine LX_inv gcF (fun x => 0 ≤ x.1 ∧ 0 ≤ x.2 ∧ Fits x.1 ∧ Fits x.2 ∧ gc x.1 x.2 = gc (ab z) (ab y)) (fun x => x.2.toNat) ?round (ab z, ab y) ⟨n1, n2, f1, f2, rfl⟩ ?start
  case start =>
    unfold gcF wc
    dsimp only
    rw [g1, g2, a1, a2]
    simp (disch := omega) only [Sx.sxE, ratio_divisor_E, Nat.reduceAdd, Nat.reduceEqDiff, Nat.reduceMul, Nat.reduceSub, Int.reduceAdd, Int.reduceSub, Int.reduceMul, Int.reduceNeg, Int.reduceLT, Int.reduceLE, Int.reduceEq, Int.reduceToNat, ↓reduceIte, decide_true, decide_false, true_and, and_true, not_false_eq_true, not_true_eq_false, Bool.not_true, Bool.not_false, Bool.not_not, Int.cast_ofNat_Int, Int.toNat_natCast, Int.reducePow, ne_eq, eq_self, and_self, Nat.le_refl, Nat.reduceLeDiff, Nat.reduceLT, Bool.false_eq_true, List.length_cons, List.length_nil]
  case round =>
    rintro ⟨x, w⟩ ⟨h1, h2, h3, h4, h5⟩
    dsimp only at h1 h2 h3 h4 h5 ⊢
    rw [← h5]
    clear h5 f1 f2 n1 n2 g1 g2 a1 a2
    have hcm := cm_zero w
    unfold gcF wc
    dsimp only
    by_cases hw : w = 0
    · subst hw
      rw [gc_zero x h1]
      have hc0 : cm 0 0 = 0 := rfl
      repeat' (first | (simp (disch := omega) only [Sx.sxE, ratio_divisor_E, Nat.reduceAdd, Nat.reduceEqDiff, Nat.reduceMul, Nat.reduceSub, Int.reduceAdd, Int.reduceSub, Int.reduceMul, Int.reduceNeg, Int.reduceLT, Int.reduceLE, Int.reduceEq, Int.reduceToNat, ↓reduceIte, decide_true, decide_false, true_and, and_true, not_false_eq_true, not_true_eq_false, Bool.not_true, Bool.not_false, Bool.not_not, Int.cast_ofNat_Int, Int.toNat_natCast, Int.reducePow, ne_eq, eq_self, and_self, Nat.le_refl, Nat.reduceLeDiff, Nat.reduceLT, Bool.false_eq_true, List.length_cons, List.length_nil, qxE, hc0]) | ((with_reducible apply Sx.known_at (f := 52)); (case h => (intro W hW; (change Gives Try.prog _ _ _ _); with_reducible exact gx_sign h4 W)); (case' hk => skip)) | ((with_reducible apply Sx.asks_at (f := 52)); (case h => (intro W hW; (change Gives Try.prog _ _ _ _); with_reducible exact gx_sign h4 W)); (case' hk => skip)))
    · have hc0 : cm w 0 ≠ 0 := by rw [hcm]; (repeat' split) <;> omega
      have hq := fits_emod (z := x) h4 hw
      have hm0 := Int.emod_nonneg x hw
      have hm1 := Int.emod_lt_of_pos x (show 0 < w by omega)
      have hgs := gc_step h1 (show 0 < w by omega)
      clear hcm
      repeat' (first | (simp (disch := omega) only [Sx.sxE, ratio_divisor_E, Nat.reduceAdd, Nat.reduceEqDiff, Nat.reduceMul, Nat.reduceSub, Int.reduceAdd, Int.reduceSub, Int.reduceMul, Int.reduceNeg, Int.reduceLT, Int.reduceLE, Int.reduceEq, Int.reduceToNat, ↓reduceIte, decide_true, decide_false, true_and, and_true, not_false_eq_true, not_true_eq_false, Bool.not_true, Bool.not_false, Bool.not_not, Int.cast_ofNat_Int, Int.toNat_natCast, Int.reducePow, ne_eq, eq_self, and_self, Nat.le_refl, Nat.reduceLeDiff, Nat.reduceLT, Bool.false_eq_true, List.length_cons, List.length_nil, qxE]) | ((with_reducible apply Sx.known_at (f := 52)); (case h => (intro W hW; (change Gives Try.prog _ _ _ _); with_reducible exact gx_sign h4 W)); (case' hk => skip)) | ((with_reducible apply Sx.asks_at (f := 52)); (case h => (intro W hW; (change Gives Try.prog _ _ _ _); with_reducible exact gx_sign h4 W)); (case' hk => skip)) | ((with_reducible apply Sx.known_at (f := 55)); (case h => (intro W hW; (change Gives Try.prog _ _ _ _); with_reducible exact gx_divmod h3 h4 hw W)); (case' hk => skip)) | ((with_reducible apply Sx.asks_at (f := 55)); (case h => (intro W hW; (change Gives Try.prog _ _ _ _); with_reducible exact gx_divmod h3 h4 hw W)); (case' hk => skip)))
      exact ⟨(w, x % w), ⟨h2, hm0, h4, hq, hgs⟩, by dsimp only; omega, by repeat' (first | (with_reducible rfl) | (exact Or.inl rfl) | apply And.intro)⟩
theorem gc_le_ab (x y : Int) : gc x y ≤ ab x ∨ gc x y ≤ ab y := by
  by_cases h : y = 0
  · left; subst h; rw [← gc_abs]; rw [show ab 0 = 0 from rfl, gc_zero _ (ab_nonneg x)]; exact Int.le_refl _
  · right
    rw [← gc_abs]
    exact gc_le (by have := ab_nonneg y; have := ab_zero_iff (z := y); omega)
theorem fits_gc {x y : Int} (h : Fits x) (h' : Fits y) : Fits (gc x y) := by
  rcases gc_le_ab x y with e | e
  · exact fits_le h (by rw [ab_pos (gc_nonneg x y)]; exact e)
  · exact fits_le h' (by rw [ab_pos (gc_nonneg x y)]; exact e)
theorem fits_one : Fits 1 := rfl
theorem cm_pos (z : Int) : 0 < cm z 0 ↔ 0 < z := by rw [cm_zero]; (repeat' split) <;> omega
theorem i64_one : I64 1 := ⟨by decide, by decide⟩
set_option maxRecDepth 100000 in
theorem gx_rvalid {p q : Int} (h : Fits p) (h' : Fits q) (W : World) : Gives Try.prog 21 [RX p q] W (· = .bool (rok true p q)) := by
  have hg := fits_gc h h'
  refine gives_known en_ratio_Valid ?_
  have hcm := cm_pos q
  refine Sx.known_of (ratio_Valid_start (args := [RX p q]) (by simp) ?_)
  repeat' (first | (simp (disch := omega) only [Sx.sxE, ratio_Valid_E, Nat.reduceAdd, Nat.reduceEqDiff, Nat.reduceMul, Nat.reduceSub, Int.reduceAdd, Int.reduceSub, Int.reduceMul, Int.reduceNeg, Int.reduceLT, Int.reduceLE, Int.reduceEq, Int.reduceToNat, ↓reduceIte, decide_true, decide_false, true_and, and_true, not_false_eq_true, not_true_eq_false, Bool.not_true, Bool.not_false, Bool.not_not, Int.cast_ofNat_Int, Int.toNat_natCast, Int.reducePow, ne_eq, eq_self, and_self, Nat.le_refl, Nat.reduceLeDiff, Nat.reduceLT, Bool.false_eq_true, List.length_cons, List.length_nil, qxE]) | ((with_reducible apply Sx.known_at (f := 51)); (case h => (intro W hW; (change Gives Try.prog _ _ _ _); with_reducible exact gx_valid h W)); (case' hk => skip)) | ((with_reducible apply Sx.asks_at (f := 51)); (case h => (intro W hW; (change Gives Try.prog _ _ _ _); with_reducible exact gx_valid h W)); (case' hk => skip)) | ((with_reducible apply Sx.known_at (f := 51)); (case h => (intro W hW; (change Gives Try.prog _ _ _ _); with_reducible exact gx_valid h' W)); (case' hk => skip)) | ((with_reducible apply Sx.asks_at (f := 51)); (case h => (intro W hW; (change Gives Try.prog _ _ _ _); with_reducible exact gx_valid h' W)); (case' hk => skip)) | ((with_reducible apply Sx.known_at (f := 52)); (case h => (intro W hW; (change Gives Try.prog _ _ _ _); with_reducible exact gx_sign h' W)); (case' hk => skip)) | ((with_reducible apply Sx.asks_at (f := 52)); (case h => (intro W hW; (change Gives Try.prog _ _ _ _); with_reducible exact gx_sign h' W)); (case' hk => skip)) | ((with_reducible apply Sx.known_at (f := 56)); (case h => (intro W hW; (change Gives Try.prog _ _ _ _); with_reducible exact gx_small h W)); (case' hk => skip)) | ((with_reducible apply Sx.asks_at (f := 56)); (case h => (intro W hW; (change Gives Try.prog _ _ _ _); with_reducible exact gx_small h W)); (case' hk => skip)) | ((with_reducible apply Sx.known_at (f := 56)); (case h => (intro W hW; (change Gives Try.prog _ _ _ _); with_reducible exact gx_small h' W)); (case' hk => skip)) | ((with_reducible apply Sx.asks_at (f := 56)); (case h => (intro W hW; (change Gives Try.prog _ _ _ _); with_reducible exact gx_small h' W)); (case' hk => skip)) | ((with_reducible apply Sx.known_at (f := 54)); (case h => (intro W hW; (change Gives Try.prog _ _ _ _); with_reducible exact gx_divisor h h' W)); (case' hk => skip)) | ((with_reducible apply Sx.asks_at (f := 54)); (case h => (intro W hW; (change Gives Try.prog _ _ _ _); with_reducible exact gx_divisor h h' W)); (case' hk => skip)) | ((with_reducible apply Sx.known_at (f := 60)); (case h => (intro W hW; (change Gives Try.prog _ _ _ _); with_reducible exact gx_of i64_one W)); (case' hk => skip)) | ((with_reducible apply Sx.asks_at (f := 60)); (case h => (intro W hW; (change Gives Try.prog _ _ _ _); with_reducible exact gx_of i64_one W)); (case' hk => skip)) | ((with_reducible apply Sx.eq_is); (case h => exact fun W => eqx_run hg fits_one W); (case' hk => skip)) | ((with_reducible apply Sx.cond_beq); (case' h1 => (intro hc; (try simp only [beq_iff_eq.2 hc]))); (case' h2 => (intro hc; (try simp only [beq_eq_false_iff_ne.2 hc])))) | ((with_reducible apply Sx.cond_dec); (case' h1 => (intro hc; (try simp only [decide_eq_true hc]))); (case' h2 => (intro hc; (try simp only [decide_eq_false hc])))) | ((with_reducible apply Sx.cond_of); (case' h1 => (intro hc; (try simp only [hc]))); (case' h2 => (intro hc; (try simp only [hc])))) | ((with_reducible apply Sx.gd_beq); (case' h1 => (intro hc; (try simp only [beq_iff_eq.2 hc]))); (case' h2 => (intro hc; (try simp only [beq_eq_false_iff_ne.2 hc])))) | ((with_reducible apply Sx.gd_dec); (case' h1 => (intro hc; (try simp only [decide_eq_true hc]))); (case' h2 => (intro hc; (try simp only [decide_eq_false hc])))) | ((with_reducible apply Sx.gd_of); (case' h1 => (intro hc; (try simp only [hc]))); (case' h2 => (intro hc; (try simp only [hc])))))
  all_goals (refine vb ?_; unfold rok; rw [Bool.eq_iff_iff]; simp_all <;> (intros; omega))
/-- A raw Ratio with a negative 0. -/
def BadR (v : Value) : Prop := (∃ q, Fits q ∧ v = .agg #[.bool true, .int .u64 0, .int .u64 0, .int .u64 0, .int .u64 0, .bool (sg q), .int .u64 (lb0 (ab q)), .int .u64 (lb1 (ab q)), .int .u64 (lb2 (ab q)), .int .u64 (lb3 (ab q))]) ∨
  (∃ p, Fits p ∧ v = .agg #[.bool (sg p), .int .u64 (lb0 (ab p)), .int .u64 (lb1 (ab p)), .int .u64 (lb2 (ab p)), .int .u64 (lb3 (ab p)), .bool true, .int .u64 0, .int .u64 0, .int .u64 0, .int .u64 0]) ∨
  v = .agg #[.bool true, .int .u64 0, .int .u64 0, .int .u64 0, .int .u64 0, .bool true, .int .u64 0, .int .u64 0, .int .u64 0, .int .u64 0]
theorem gx_rvalid0 {v : Value} (h : BadR v) (W : World) : Gives Try.prog 21 [v] W (· = .bool false) := by
  refine gives_known en_ratio_Valid ?_
  rcases h with ⟨q, h, rfl⟩ | ⟨p, h, rfl⟩ | rfl
  · refine Sx.known_of (ratio_Valid_start (args := [_]) (by simp) ?_)
    repeat' (first | (simp (disch := omega) only [Sx.sxE, ratio_Valid_E, Nat.reduceAdd, Nat.reduceEqDiff, Nat.reduceMul, Nat.reduceSub, Int.reduceAdd, Int.reduceSub, Int.reduceMul, Int.reduceNeg, Int.reduceLT, Int.reduceLE, Int.reduceEq, Int.reduceToNat, ↓reduceIte, decide_true, decide_false, true_and, and_true, not_false_eq_true, not_true_eq_false, Bool.not_true, Bool.not_false, Bool.not_not, Int.cast_ofNat_Int, Int.toNat_natCast, Int.reducePow, ne_eq, eq_self, and_self, Nat.le_refl, Nat.reduceLeDiff, Nat.reduceLT, Bool.false_eq_true, List.length_cons, List.length_nil, qxE]) | ((with_reducible apply Sx.known_at (f := 51)); (case h => (intro W hW; (change Gives Try.prog _ _ _ _); with_reducible exact gx_valid0 W)); (case' hk => skip)) | ((with_reducible apply Sx.asks_at (f := 51)); (case h => (intro W hW; (change Gives Try.prog _ _ _ _); with_reducible exact gx_valid0 W)); (case' hk => skip)))
  · refine Sx.known_of (ratio_Valid_start (args := [_]) (by simp) ?_)
    repeat' (first | (simp (disch := omega) only [Sx.sxE, ratio_Valid_E, Nat.reduceAdd, Nat.reduceEqDiff, Nat.reduceMul, Nat.reduceSub, Int.reduceAdd, Int.reduceSub, Int.reduceMul, Int.reduceNeg, Int.reduceLT, Int.reduceLE, Int.reduceEq, Int.reduceToNat, ↓reduceIte, decide_true, decide_false, true_and, and_true, not_false_eq_true, not_true_eq_false, Bool.not_true, Bool.not_false, Bool.not_not, Int.cast_ofNat_Int, Int.toNat_natCast, Int.reducePow, ne_eq, eq_self, and_self, Nat.le_refl, Nat.reduceLeDiff, Nat.reduceLT, Bool.false_eq_true, List.length_cons, List.length_nil, qxE]) | ((with_reducible apply Sx.known_at (f := 51)); (case h => (intro W hW; (change Gives Try.prog _ _ _ _); with_reducible exact gx_valid h W)); (case' hk => skip)) | ((with_reducible apply Sx.asks_at (f := 51)); (case h => (intro W hW; (change Gives Try.prog _ _ _ _); with_reducible exact gx_valid h W)); (case' hk => skip)) | ((with_reducible apply Sx.known_at (f := 51)); (case h => (intro W hW; (change Gives Try.prog _ _ _ _); with_reducible exact gx_valid0 W)); (case' hk => skip)) | ((with_reducible apply Sx.asks_at (f := 51)); (case h => (intro W hW; (change Gives Try.prog _ _ _ _); with_reducible exact gx_valid0 W)); (case' hk => skip)))
  · refine Sx.known_of (ratio_Valid_start (args := [_]) (by simp) ?_)
    repeat' (first | (simp (disch := omega) only [Sx.sxE, ratio_Valid_E, Nat.reduceAdd, Nat.reduceEqDiff, Nat.reduceMul, Nat.reduceSub, Int.reduceAdd, Int.reduceSub, Int.reduceMul, Int.reduceNeg, Int.reduceLT, Int.reduceLE, Int.reduceEq, Int.reduceToNat, ↓reduceIte, decide_true, decide_false, true_and, and_true, not_false_eq_true, not_true_eq_false, Bool.not_true, Bool.not_false, Bool.not_not, Int.cast_ofNat_Int, Int.toNat_natCast, Int.reducePow, ne_eq, eq_self, and_self, Nat.le_refl, Nat.reduceLeDiff, Nat.reduceLT, Bool.false_eq_true, List.length_cons, List.length_nil, qxE]) | ((with_reducible apply Sx.known_at (f := 51)); (case h => (intro W hW; (change Gives Try.prog _ _ _ _); with_reducible exact gx_valid0 W)); (case' hk => skip)) | ((with_reducible apply Sx.asks_at (f := 51)); (case h => (intro W hW; (change Gives Try.prog _ _ _ _); with_reducible exact gx_valid0 W)); (case' hk => skip)))
theorem gx_rof {z : Int} (h : I64 z) (W : World) : Gives Try.prog 36 [.int .i64 z] W (· = RX z 1) := by
  refine gives_known en_ratio_Of ?_
  refine Sx.known_of (ratio_Of_start (args := [_]) (by simp) ?_)
  repeat' (first | (simp (disch := omega) only [Sx.sxE, ratio_Of_E, Nat.reduceAdd, Nat.reduceEqDiff, Nat.reduceMul, Nat.reduceSub, Int.reduceAdd, Int.reduceSub, Int.reduceMul, Int.reduceNeg, Int.reduceLT, Int.reduceLE, Int.reduceEq, Int.reduceToNat, ↓reduceIte, decide_true, decide_false, true_and, and_true, not_false_eq_true, not_true_eq_false, Bool.not_true, Bool.not_false, Bool.not_not, Int.cast_ofNat_Int, Int.toNat_natCast, Int.reducePow, ne_eq, eq_self, and_self, Nat.le_refl, Nat.reduceLeDiff, Nat.reduceLT, Bool.false_eq_true, List.length_cons, List.length_nil, qxE]) | ((with_reducible apply Sx.known_at (f := 60)); (case h => (intro W hW; (change Gives Try.prog _ _ _ _); with_reducible exact gx_of h W)); (case' hk => skip)) | ((with_reducible apply Sx.asks_at (f := 60)); (case h => (intro W hW; (change Gives Try.prog _ _ _ _); with_reducible exact gx_of h W)); (case' hk => skip)) | ((with_reducible apply Sx.known_at (f := 60)); (case h => (intro W hW; (change Gives Try.prog _ _ _ _); with_reducible exact gx_of i64_one W)); (case' hk => skip)) | ((with_reducible apply Sx.asks_at (f := 60)); (case h => (intro W hW; (change Gives Try.prog _ _ _ _); with_reducible exact gx_of i64_one W)); (case' hk => skip)))
/-- v is a raw Ratio that counts as p / q. -/
def CQ (v : Value) (p q : Int) : Prop := (∃ x y, Fits x ∧ Fits y ∧ v = RX x y ∧ p = qn true x y ∧ q = qd true x y) ∨ (BadR v ∧ p = 0 ∧ q = 1)
theorem CQ.fq {v : Value} {p q : Int} (h : CQ v p q) : Fq p q := by
  rcases h with ⟨x, y, -, -, -, rfl, rfl⟩ | ⟨-, rfl, rfl⟩
  · exact fq_clean _ _ _
  · exact fq_zero
theorem Fq.cq {p q : Int} (h : Fq p q) : CQ (RX p q) p q := by
  have : rok true p q = true := rok_iff.2 ⟨rfl, h⟩
  exact .inl ⟨p, q, h.fp, h.fq, rfl, by unfold qn; rw [this]; rfl, by unfold qd; rw [this]; rfl⟩
set_option maxRecDepth 100000 in
theorem gx_rclean {v : Value} {p q : Int} (h : CQ v p q) (W : World) : Gives Try.prog 61 [v] W (· = RX p q) := by
  refine gives_known en_ratio_clean ?_
  rcases h with ⟨x, y, h1, h2, rfl, rfl, rfl⟩ | ⟨h, rfl, rfl⟩
  · unfold qn qd
    cases hk : rok true x y
    · refine Sx.known_of (ratio_clean_start (args := [_]) (by simp) ?_)
      repeat' (first | (simp (disch := omega) only [Sx.sxE, ratio_clean_E, Nat.reduceAdd, Nat.reduceEqDiff, Nat.reduceMul, Nat.reduceSub, Int.reduceAdd, Int.reduceSub, Int.reduceMul, Int.reduceNeg, Int.reduceLT, Int.reduceLE, Int.reduceEq, Int.reduceToNat, ↓reduceIte, decide_true, decide_false, true_and, and_true, not_false_eq_true, not_true_eq_false, Bool.not_true, Bool.not_false, Bool.not_not, Int.cast_ofNat_Int, Int.toNat_natCast, Int.reducePow, ne_eq, eq_self, and_self, Nat.le_refl, Nat.reduceLeDiff, Nat.reduceLT, Bool.false_eq_true, List.length_cons, List.length_nil, qxE, hk]) | ((with_reducible apply Sx.known_at (f := 21)); (case h => (intro W hW; (change Gives Try.prog _ _ _ _); with_reducible exact gx_rvalid h1 h2 W)); (case' hk => skip)) | ((with_reducible apply Sx.asks_at (f := 21)); (case h => (intro W hW; (change Gives Try.prog _ _ _ _); with_reducible exact gx_rvalid h1 h2 W)); (case' hk => skip)) | ((with_reducible apply Sx.known_at (f := 36)); (case h => (intro W hW; (change Gives Try.prog _ _ _ _); with_reducible exact gx_rof i64_zero W)); (case' hk => skip)) | ((with_reducible apply Sx.asks_at (f := 36)); (case h => (intro W hW; (change Gives Try.prog _ _ _ _); with_reducible exact gx_rof i64_zero W)); (case' hk => skip)))
    · refine Sx.known_of (ratio_clean_start (args := [_]) (by simp) ?_)
      repeat' (first | (simp (disch := omega) only [Sx.sxE, ratio_clean_E, Nat.reduceAdd, Nat.reduceEqDiff, Nat.reduceMul, Nat.reduceSub, Int.reduceAdd, Int.reduceSub, Int.reduceMul, Int.reduceNeg, Int.reduceLT, Int.reduceLE, Int.reduceEq, Int.reduceToNat, ↓reduceIte, decide_true, decide_false, true_and, and_true, not_false_eq_true, not_true_eq_false, Bool.not_true, Bool.not_false, Bool.not_not, Int.cast_ofNat_Int, Int.toNat_natCast, Int.reducePow, ne_eq, eq_self, and_self, Nat.le_refl, Nat.reduceLeDiff, Nat.reduceLT, Bool.false_eq_true, List.length_cons, List.length_nil, qxE, hk]) | ((with_reducible apply Sx.known_at (f := 21)); (case h => (intro W hW; (change Gives Try.prog _ _ _ _); with_reducible exact gx_rvalid h1 h2 W)); (case' hk => skip)) | ((with_reducible apply Sx.asks_at (f := 21)); (case h => (intro W hW; (change Gives Try.prog _ _ _ _); with_reducible exact gx_rvalid h1 h2 W)); (case' hk => skip)) | ((with_reducible apply Sx.known_at (f := 36)); (case h => (intro W hW; (change Gives Try.prog _ _ _ _); with_reducible exact gx_rof i64_zero W)); (case' hk => skip)) | ((with_reducible apply Sx.asks_at (f := 36)); (case h => (intro W hW; (change Gives Try.prog _ _ _ _); with_reducible exact gx_rof i64_zero W)); (case' hk => skip)))
  · have hv := fun W => gx_rvalid0 h W
    rcases h with ⟨q, h, rfl⟩ | ⟨p, h, rfl⟩ | rfl
    · refine Sx.known_of (ratio_clean_start (args := [_]) (by simp) ?_)
      repeat' (first | (simp (disch := omega) only [Sx.sxE, ratio_clean_E, Nat.reduceAdd, Nat.reduceEqDiff, Nat.reduceMul, Nat.reduceSub, Int.reduceAdd, Int.reduceSub, Int.reduceMul, Int.reduceNeg, Int.reduceLT, Int.reduceLE, Int.reduceEq, Int.reduceToNat, ↓reduceIte, decide_true, decide_false, true_and, and_true, not_false_eq_true, not_true_eq_false, Bool.not_true, Bool.not_false, Bool.not_not, Int.cast_ofNat_Int, Int.toNat_natCast, Int.reducePow, ne_eq, eq_self, and_self, Nat.le_refl, Nat.reduceLeDiff, Nat.reduceLT, Bool.false_eq_true, List.length_cons, List.length_nil, qxE]) | ((with_reducible apply Sx.known_at (f := 21)); (case h => (intro W hW; (change Gives Try.prog _ _ _ _); with_reducible exact hv W)); (case' hk => skip)) | ((with_reducible apply Sx.asks_at (f := 21)); (case h => (intro W hW; (change Gives Try.prog _ _ _ _); with_reducible exact hv W)); (case' hk => skip)) | ((with_reducible apply Sx.known_at (f := 36)); (case h => (intro W hW; (change Gives Try.prog _ _ _ _); with_reducible exact gx_rof i64_zero W)); (case' hk => skip)) | ((with_reducible apply Sx.asks_at (f := 36)); (case h => (intro W hW; (change Gives Try.prog _ _ _ _); with_reducible exact gx_rof i64_zero W)); (case' hk => skip)))
    · refine Sx.known_of (ratio_clean_start (args := [_]) (by simp) ?_)
      repeat' (first | (simp (disch := omega) only [Sx.sxE, ratio_clean_E, Nat.reduceAdd, Nat.reduceEqDiff, Nat.reduceMul, Nat.reduceSub, Int.reduceAdd, Int.reduceSub, Int.reduceMul, Int.reduceNeg, Int.reduceLT, Int.reduceLE, Int.reduceEq, Int.reduceToNat, ↓reduceIte, decide_true, decide_false, true_and, and_true, not_false_eq_true, not_true_eq_false, Bool.not_true, Bool.not_false, Bool.not_not, Int.cast_ofNat_Int, Int.toNat_natCast, Int.reducePow, ne_eq, eq_self, and_self, Nat.le_refl, Nat.reduceLeDiff, Nat.reduceLT, Bool.false_eq_true, List.length_cons, List.length_nil, qxE]) | ((with_reducible apply Sx.known_at (f := 21)); (case h => (intro W hW; (change Gives Try.prog _ _ _ _); with_reducible exact hv W)); (case' hk => skip)) | ((with_reducible apply Sx.asks_at (f := 21)); (case h => (intro W hW; (change Gives Try.prog _ _ _ _); with_reducible exact hv W)); (case' hk => skip)) | ((with_reducible apply Sx.known_at (f := 36)); (case h => (intro W hW; (change Gives Try.prog _ _ _ _); with_reducible exact gx_rof i64_zero W)); (case' hk => skip)) | ((with_reducible apply Sx.asks_at (f := 36)); (case h => (intro W hW; (change Gives Try.prog _ _ _ _); with_reducible exact gx_rof i64_zero W)); (case' hk => skip)))
    · refine Sx.known_of (ratio_clean_start (args := [_]) (by simp) ?_)
      repeat' (first | (simp (disch := omega) only [Sx.sxE, ratio_clean_E, Nat.reduceAdd, Nat.reduceEqDiff, Nat.reduceMul, Nat.reduceSub, Int.reduceAdd, Int.reduceSub, Int.reduceMul, Int.reduceNeg, Int.reduceLT, Int.reduceLE, Int.reduceEq, Int.reduceToNat, ↓reduceIte, decide_true, decide_false, true_and, and_true, not_false_eq_true, not_true_eq_false, Bool.not_true, Bool.not_false, Bool.not_not, Int.cast_ofNat_Int, Int.toNat_natCast, Int.reducePow, ne_eq, eq_self, and_self, Nat.le_refl, Nat.reduceLeDiff, Nat.reduceLT, Bool.false_eq_true, List.length_cons, List.length_nil, qxE]) | ((with_reducible apply Sx.known_at (f := 21)); (case h => (intro W hW; (change Gives Try.prog _ _ _ _); with_reducible exact hv W)); (case' hk => skip)) | ((with_reducible apply Sx.asks_at (f := 21)); (case h => (intro W hW; (change Gives Try.prog _ _ _ _); with_reducible exact hv W)); (case' hk => skip)) | ((with_reducible apply Sx.known_at (f := 36)); (case h => (intro W hW; (change Gives Try.prog _ _ _ _); with_reducible exact gx_rof i64_zero W)); (case' hk => skip)) | ((with_reducible apply Sx.asks_at (f := 36)); (case h => (intro W hW; (change Gives Try.prog _ _ _ _); with_reducible exact gx_rof i64_zero W)); (case' hk => skip)))
end Go.Proofs.Ytlanoclibdhpmaa

/- Ql: Plain laws of fractions. -/
namespace Go.Proofs.Ytlanoclibdhpmaa
set_option linter.unusedVariables false
set_option linter.unusedSimpArgs false
theorem km_neg (x y : Int) : cm x y = -cm y x := by unfold cm; (repeat' split) <;> omega
theorem km_bd (x y : Int) : -1 ≤ cm x y ∧ cm x y ≤ 1 := by unfold cm; (repeat' split) <;> omega
theorem km_le (x y : Int) : cm x y ≤ 0 ↔ x ≤ y := by unfold cm; (repeat' split) <;> omega
theorem km_ge0 (x y : Int) : 0 ≤ cm x y ↔ y ≤ x := by unfold cm; (repeat' split) <;> omega
theorem km_eq (x y : Int) : cm x y = 0 ↔ x = y := by unfold cm; (repeat' split) <;> omega
/-- Which of two fractions is greater. -/
def cq (p q p' q' : Int) : Int := cm (p * q') (p' * q)
theorem cq_neg (p q p' q' : Int) : cq p q p' q' = -cq p' q' p q := km_neg _ _
theorem mul_le_cancel {a x y : Int} (ha : 0 < a) (h : a * x ≤ a * y) : x ≤ y := Int.le_of_mul_le_mul_left h ha
theorem cq_trans {p q p' q' p'' q'' : Int} (hq : 0 < q) (hq' : 0 < q') (hq'' : 0 < q'') (h1 : cq p q p' q' ≤ 0) (h2 : cq p' q' p'' q'' ≤ 0) : cq p q p'' q'' ≤ 0 := by
  unfold cq at *
  rw [km_le] at *
  refine mul_le_cancel hq' ?_
  have e1 := Int.mul_le_mul_of_nonneg_right h1 (Int.le_of_lt hq'')
  have e2 := Int.mul_le_mul_of_nonneg_right h2 (Int.le_of_lt hq)
  have a1 : q' * (p * q'') = p * q' * q'' := by rw [Int.mul_left_comm, Int.mul_assoc]
  have a2 : p' * q'' * q = p' * q * q'' := by rw [Int.mul_assoc, Int.mul_comm q'' q, ← Int.mul_assoc]
  have a3 : q' * (p'' * q) = p'' * q' * q := by rw [Int.mul_left_comm, Int.mul_assoc]
  rw [a1, a3]
  omega
theorem gcd_dvd_iff {x y : Int} : Int.gcd x y = x.natAbs ↔ x ∣ y := Int.gcd_eq_natAbs_left_iff_dvd
theorem dvd_of_gc {q p q' : Int} (hq : 0 < q) (h : gc p q = 1) (hd : q ∣ p * q') : q ∣ q' := by
  have h1 : Int.gcd q p = 1 := by unfold gc at h; rw [Int.gcd_comm]; omega
  have h2 := Int.gcd_mul_right_right_of_gcd_eq_one (k := q') h1
  have h3 : Int.gcd q (p * q') = q.natAbs := gcd_dvd_iff.2 hd
  rw [h3] at h2
  exact gcd_dvd_iff.1 h2.symm
theorem fq_same {p q p' q' : Int} (h : Fq p q) (h' : Fq p' q') (e : p * q' = p' * q) : p = p' ∧ q = q' := by
  have d1 : q ∣ q' := dvd_of_gc h.pos h.gc ⟨p', by rw [e, Int.mul_comm]⟩
  have d2 : q' ∣ q := dvd_of_gc h'.pos h'.gc ⟨p, by rw [← e, Int.mul_comm]⟩
  have e1 := Int.le_of_dvd h'.pos d1
  have e2 := Int.le_of_dvd h.pos d2
  have e3 : q = q' := by omega
  subst e3
  exact ⟨Int.eq_of_mul_eq_mul_right h.ne e, rfl⟩
theorem cq_eq {p q p' q' : Int} (h : Fq p q) (h' : Fq p' q') : cq p q p' q' = 0 ↔ p = p' ∧ q = q' := by
  unfold cq
  rw [km_eq]
  exact ⟨fq_same h h', fun ⟨a, b⟩ => by rw [a, b]⟩
theorem mk_scale {p q m : Int} (h : Fq p q) (hm : m ≠ 0) : mn (p * m) (q * m) = p ∧ mD (p * m) (q * m) = q := by
  have hg : gc (p * m) (q * m) = ab m := by
    have := h.gc
    unfold gc at *
    rw [Int.gcd_mul_right]
    have : Int.gcd p q = 1 := by omega
    rw [this, Nat.one_mul]
    unfold ab; split <;> omega
  have hq := h.pos
  unfold mn mD
  rw [hg]
  rcases Int.lt_or_lt_of_ne hm with hn | hp
  · have e1 : q * m < 0 := Int.mul_neg_of_pos_of_neg hq hn
    have e2 : ab m = -m := by unfold ab; rw [if_pos hn]
    have e3 : ab (q * m) = q * -m := by unfold ab; rw [if_pos e1, Int.mul_neg]
    rw [if_pos e1, e2, e3, ← Int.mul_neg]
    exact ⟨Int.mul_ediv_cancel _ (by omega), Int.mul_ediv_cancel _ (by omega)⟩
  · have e1 : 0 < q * m := Int.mul_pos hq hp
    have e2 : ab m = m := by unfold ab; rw [if_neg (by omega)]
    have e3 : ab (q * m) = q * m := by unfold ab; rw [if_neg (by omega)]
    rw [if_neg (by omega), e2, e3]
    exact ⟨Int.mul_ediv_cancel _ hm, Int.mul_ediv_cancel _ hm⟩
theorem mok_scale {p q m : Int} (h : Fq p q) (hm : m ≠ 0) : mok true (p * m) (q * m) = true := by
  obtain ⟨e1, e2⟩ := mk_scale h hm
  have hne : q * m ≠ 0 := Int.mul_ne_zero h.ne hm
  unfold mok
  rw [e1, e2, decide_eq_false hne, decide_eq_true (show ab p < _ from h.bp), decide_eq_true (show ab q < _ from h.bq)]
  rfl
theorem mk_one {z : Int} (h : Bd 127 z) : mn z 1 = z ∧ mD z 1 = 1 ∧ mok true z 1 = true := by
  have h1 := mk_scale (fq_int h) (m := 1) (by decide)
  have h2 := mok_scale (fq_int h) (m := 1) (by decide)
  rw [Int.mul_one, Int.mul_one] at h1 h2
  exact ⟨h1.1, h1.2, h2⟩
def atq (p q n : Int) : Int := (2 * (p * n) + q) / (2 * q)
theorem fl_le {x y : Int} (hy : 0 < y) : x / y * y ≤ x ∧ x < x / y * y + y := by
  have h1 := Int.mul_ediv_add_emod x y
  have h2 := Int.emod_nonneg x (Int.ne_of_gt hy)
  have h3 := Int.emod_lt_of_pos x hy
  rw [Int.mul_comm] at h1
  omega
theorem le_fl {x y z : Int} (hy : 0 < y) (h : z * y ≤ x) : z ≤ x / y := (Int.le_ediv_iff_mul_le hy).2 h
theorem at_mono {p q p' q' n : Int} (hq : 0 < q) (hq' : 0 < q') (hn : 0 ≤ n) (h : p * q' ≤ p' * q) : atq p q n ≤ atq p' q' n := by
  unfold atq
  refine le_fl (by omega) ?_
  have h1 := (fl_le (x := 2 * (p * n) + q) (y := 2 * q) (by omega)).1
  generalize (2 * (p * n) + q) / (2 * q) = A at *
  refine mul_le_cancel hq ?_
  have e1 := Int.mul_le_mul_of_nonneg_right h1 (Int.le_of_lt hq')
  have e2 := Int.mul_le_mul_of_nonneg_right h hn
  have a1 : q * (A * (2 * q')) = A * (2 * q) * q' := by
    rw [Int.mul_left_comm, Int.mul_assoc]
    congr 1
    rw [Int.mul_left_comm, Int.mul_assoc]
  have a2 : (2 * (p * n) + q) * q' = 2 * (p * q' * n) + q * q' := by
    rw [Int.add_mul, Int.mul_assoc, Int.mul_assoc p n q', Int.mul_comm n q', ← Int.mul_assoc p q' n]
  have a3 : q * (2 * (p' * n) + q') = 2 * (p' * q * n) + q * q' := by
    rw [Int.mul_add, Int.mul_left_comm, Int.mul_left_comm q p' n, ← Int.mul_assoc p' q n]
  rw [a1, a3]
  rw [a2] at e1
  omega
/-- Twice the difference between n p / q and the integer next to it. -/
theorem at_near {p q n : Int} (hq : 0 < q) : ab (p * n - atq p q n * q + (p * n - atq p q n * q)) ≤ q := by
  unfold atq
  have h1 := fl_le (x := 2 * (p * n) + q) (y := 2 * q) (by omega)
  generalize (2 * (p * n) + q) / (2 * q) = A at *
  have a1 : A * (2 * q) = 2 * (A * q) := Int.mul_left_comm _ _ _
  rw [a1] at h1
  generalize A * q = B at *
  generalize p * n = N at *
  unfold ab
  split <;> omega
theorem ceil_le {p q : Int} (hq : 0 < q) : p ≤ -(-p / q) * q ∧ -(-p / q) * q < p + q := by
  have h := fl_le (x := -p) hq
  rw [Int.neg_mul]
  omega
theorem div_one_iff {p q : Int} (h : Fq p q) : (-(-p / q) - p / q = if q = 1 then 0 else 1) := by
  have h1 := fl_le (x := p) h.pos
  have h2 := ceil_le (p := p) h.pos
  have hq := h.pos
  generalize hA : p / q = A at *
  generalize hB : -(-p / q) = B at *
  by_cases e : q = 1
  · rw [if_pos e]
    subst e
    omega
  · rw [if_neg e]
    have hne : A * q ≠ p := fun e2 => by
      have hd : q ∣ p := ⟨A, by rw [← e2, Int.mul_comm]⟩
      have hg := h.gc
      rw [gc_sym] at hg
      have := dvd_of_gc (p := 1) (q' := 1) hq (by unfold gc; rw [Int.gcd_comm, Int.gcd_one_right]; rfl) (by
        have h3 : gc q p = q := by
          unfold gc
          rw [gcd_dvd_iff.2 hd]; omega
        rw [h3] at hg
        rw [hg]; exact ⟨1, rfl⟩)
      have := Int.le_of_dvd (by decide) this
      omega
    have e1 : (B - A) * q = B * q - A * q := Int.sub_mul _ _ _
    have l1 : 0 < B - A := by
      rcases Int.lt_or_le 0 (B - A) with h | h
      · exact h
      · have := Int.mul_le_mul_of_nonneg_right h (Int.le_of_lt hq)
        omega
    have l2 : B - A < 2 := by
      rcases Int.lt_or_le (B - A) 2 with h | h
      · exact h
      · have := Int.mul_le_mul_of_nonneg_right h (Int.le_of_lt hq)
        omega
    omega
theorem at_one {p q : Int} (h : 0 < q) : atq p q 1 = p / q ∨ atq p q 1 = -(-p / q) := by
  have h1 := fl_le (x := p) h
  have h2 := ceil_le (p := p) h
  have h3 := at_near (p := p) (n := 1) h
  generalize atq p q 1 = T at *
  generalize p / q = A at *
  generalize -(-p / q) = B at *
  rw [Int.mul_one] at h3
  have e1 : (B - A) * q = B * q - A * q := Int.sub_mul _ _ _
  have e2 : (T - A) * q = T * q - A * q := Int.sub_mul _ _ _
  have e3 : (B - T) * q = B * q - T * q := Int.sub_mul _ _ _
  have key : ∀ x : Int, x * q < q → x < 1 := fun x hx => by
    rcases Int.lt_or_le x 1 with h4 | h4
    · exact h4
    · have := Int.mul_le_mul_of_nonneg_right h4 (Int.le_of_lt h); omega
  unfold ab at h3
  have kb : B - A < 2 := by
    have := key (B - A - 1) (by rw [Int.sub_mul, e1]; omega)
    omega
  have k1 : -1 < T - A := by
    have := key (A - T) (by rw [Int.sub_mul]; split at h3 <;> omega)
    omega
  have k2 : -1 < B - T := by
    have := key (T - B) (by rw [Int.sub_mul]; split at h3 <;> omega)
    omega
  have k3 : 0 ≤ B - A := by
    have := key (A - B) (by rw [Int.sub_mul]; omega)
    omega
  omega
end Go.Proofs.Ytlanoclibdhpmaa

/- Qb: What calls of the program's ratio give: Compare, Floor, Ceil, At, Make. -/
namespace Go.Proofs.Ytlanoclibdhpmaa
open Go Go.RowKit Sx
set_option linter.unusedVariables false
set_option linter.unusedSimpArgs false
theorem CQ.ten {v : Value} {p q : Int} (h : CQ v p q) : ∃ c0 c1 c2 c3 c4 c5 c6 c7 c8 c9, v = .agg #[c0, c1, c2, c3, c4, c5, c6, c7, c8, c9] := by
  rcases h with ⟨x, y, -, -, rfl, -, -⟩ | ⟨⟨q, -, rfl⟩ | ⟨p, -, rfl⟩ | rfl, -, -⟩ <;> exact ⟨_, _, _, _, _, _, _, _, _, _, rfl⟩
theorem gx_product {x y : Int} (h : Fits x) (h' : Fits y) (hf : Fits (x * y)) (W : World) : Gives Try.prog 63 [WX x, WX y] W (· = WX (x * y)) := by
  refine gives_known en_ratio_product ?_
  refine Sx.known_of (ratio_product_start (args := [_, _]) (by simp) ?_)
  repeat' (first | (simp (disch := omega) only [Sx.sxE, ratio_product_E, Nat.reduceAdd, Nat.reduceEqDiff, Nat.reduceMul, Nat.reduceSub, Int.reduceAdd, Int.reduceSub, Int.reduceMul, Int.reduceNeg, Int.reduceLT, Int.reduceLE, Int.reduceEq, Int.reduceToNat, ↓reduceIte, decide_true, decide_false, true_and, and_true, not_false_eq_true, not_true_eq_false, Bool.not_true, Bool.not_false, Bool.not_not, Int.cast_ofNat_Int, Int.toNat_natCast, Int.reducePow, ne_eq, eq_self, and_self, Nat.le_refl, Nat.reduceLeDiff, Nat.reduceLT, Bool.false_eq_true, List.length_cons, List.length_nil, qxE]) | ((with_reducible apply Sx.known_at (f := 91)); (case h => (intro W hW; (change Gives Try.prog _ _ _ _); with_reducible exact gx_mul h h' hf W)); (case' hk => skip)) | ((with_reducible apply Sx.asks_at (f := 91)); (case h => (intro W hW; (change Gives Try.prog _ _ _ _); with_reducible exact gx_mul h h' hf W)); (case' hk => skip)))
theorem Fq.fm {p q p' q' : Int} (h : Fq p q) (h' : Fq p' q') : Fits (p * q') := (bd_mul h.bp h'.bq).fits
theorem gx_rcompare {v v' : Value} {p q p' q' : Int} (h : CQ v p q) (h' : CQ v' p' q') (W : World) : Gives Try.prog 30 [v, v'] W (· = .int .i64 (cq p q p' q')) := by
  obtain ⟨c0, c1, c2, c3, c4, c5, c6, c7, c8, c9, rfl⟩ := h.ten
  obtain ⟨d0, d1, d2, d3, d4, d5, d6, d7, d8, d9, rfl⟩ := h'.ten
  have f := h.fq
  have f' := h'.fq
  have m1 := f.fm f'
  have m2 := f'.fm f
  refine gives_known en_ratio_Compare ?_
  refine Sx.known_of (ratio_Compare_start (args := [_, _]) (by simp) ?_)
  repeat' (first | (simp (disch := omega) only [Sx.sxE, ratio_Compare_E, Nat.reduceAdd, Nat.reduceEqDiff, Nat.reduceMul, Nat.reduceSub, Int.reduceAdd, Int.reduceSub, Int.reduceMul, Int.reduceNeg, Int.reduceLT, Int.reduceLE, Int.reduceEq, Int.reduceToNat, ↓reduceIte, decide_true, decide_false, true_and, and_true, not_false_eq_true, not_true_eq_false, Bool.not_true, Bool.not_false, Bool.not_not, Int.cast_ofNat_Int, Int.toNat_natCast, Int.reducePow, ne_eq, eq_self, and_self, Nat.le_refl, Nat.reduceLeDiff, Nat.reduceLT, Bool.false_eq_true, List.length_cons, List.length_nil, qxE]) | ((with_reducible apply Sx.known_at (f := 61)); (case h => (intro W hW; (change Gives Try.prog _ _ _ _); with_reducible exact gx_rclean h W)); (case' hk => skip)) | ((with_reducible apply Sx.asks_at (f := 61)); (case h => (intro W hW; (change Gives Try.prog _ _ _ _); with_reducible exact gx_rclean h W)); (case' hk => skip)) | ((with_reducible apply Sx.known_at (f := 61)); (case h => (intro W hW; (change Gives Try.prog _ _ _ _); with_reducible exact gx_rclean h' W)); (case' hk => skip)) | ((with_reducible apply Sx.asks_at (f := 61)); (case h => (intro W hW; (change Gives Try.prog _ _ _ _); with_reducible exact gx_rclean h' W)); (case' hk => skip)) | ((with_reducible apply Sx.known_at (f := 63)); (case h => (intro W hW; (change Gives Try.prog _ _ _ _); with_reducible exact gx_product f.fp f'.fq m1 W)); (case' hk => skip)) | ((with_reducible apply Sx.asks_at (f := 63)); (case h => (intro W hW; (change Gives Try.prog _ _ _ _); with_reducible exact gx_product f.fp f'.fq m1 W)); (case' hk => skip)) | ((with_reducible apply Sx.known_at (f := 63)); (case h => (intro W hW; (change Gives Try.prog _ _ _ _); with_reducible exact gx_product f'.fp f.fq m2 W)); (case' hk => skip)) | ((with_reducible apply Sx.asks_at (f := 63)); (case h => (intro W hW; (change Gives Try.prog _ _ _ _); with_reducible exact gx_product f'.fp f.fq m2 W)); (case' hk => skip)) | ((with_reducible apply Sx.known_at (f := 70)); (case h => (intro W hW; (change Gives Try.prog _ _ _ _); with_reducible exact gx_compare m1 m2 W)); (case' hk => skip)) | ((with_reducible apply Sx.asks_at (f := 70)); (case h => (intro W hW; (change Gives Try.prog _ _ _ _); with_reducible exact gx_compare m1 m2 W)); (case' hk => skip)))
  rfl
theorem gx_rfloor {v : Value} {p q : Int} (h : CQ v p q) (W : World) : Gives Try.prog 24 [v] W (· = WX (p / q)) := by
  obtain ⟨c0, c1, c2, c3, c4, c5, c6, c7, c8, c9, rfl⟩ := h.ten
  have f := h.fq
  refine gives_known en_ratio_Floor ?_
  refine Sx.known_of (ratio_Floor_start (args := [_]) (by simp) ?_)
  repeat' (first | (simp (disch := omega) only [Sx.sxE, ratio_Floor_E, Nat.reduceAdd, Nat.reduceEqDiff, Nat.reduceMul, Nat.reduceSub, Int.reduceAdd, Int.reduceSub, Int.reduceMul, Int.reduceNeg, Int.reduceLT, Int.reduceLE, Int.reduceEq, Int.reduceToNat, ↓reduceIte, decide_true, decide_false, true_and, and_true, not_false_eq_true, not_true_eq_false, Bool.not_true, Bool.not_false, Bool.not_not, Int.cast_ofNat_Int, Int.toNat_natCast, Int.reducePow, ne_eq, eq_self, and_self, Nat.le_refl, Nat.reduceLeDiff, Nat.reduceLT, Bool.false_eq_true, List.length_cons, List.length_nil, qxE]) | ((with_reducible apply Sx.known_at (f := 61)); (case h => (intro W hW; (change Gives Try.prog _ _ _ _); with_reducible exact gx_rclean h W)); (case' hk => skip)) | ((with_reducible apply Sx.asks_at (f := 61)); (case h => (intro W hW; (change Gives Try.prog _ _ _ _); with_reducible exact gx_rclean h W)); (case' hk => skip)) | ((with_reducible apply Sx.known_at (f := 55)); (case h => (intro W hW; (change Gives Try.prog _ _ _ _); with_reducible exact gx_divmod f.fp f.fq f.ne W)); (case' hk => skip)) | ((with_reducible apply Sx.asks_at (f := 55)); (case h => (intro W hW; (change Gives Try.prog _ _ _ _); with_reducible exact gx_divmod f.fp f.fq f.ne W)); (case' hk => skip)))
theorem Fq.neg {p q : Int} (h : Fq p q) : Fq (-p) q := ⟨h.pos, bd_neg h.bp, h.bq, by rw [gc_neg]; exact h.gc⟩
theorem gx_rceil {v : Value} {p q : Int} (h : CQ v p q) (W : World) : Gives Try.prog 25 [v] W (· = WX (-(-p / q))) := by
  obtain ⟨c0, c1, c2, c3, c4, c5, c6, c7, c8, c9, rfl⟩ := h.ten
  have f := h.fq
  have f2 := f.neg
  have f3 := fits_ediv f2.fp f2.ne
  refine gives_known en_ratio_Ceil ?_
  refine Sx.known_of (ratio_Ceil_start (args := [_]) (by simp) ?_)
  repeat' (first | (simp (disch := omega) only [Sx.sxE, ratio_Ceil_E, Nat.reduceAdd, Nat.reduceEqDiff, Nat.reduceMul, Nat.reduceSub, Int.reduceAdd, Int.reduceSub, Int.reduceMul, Int.reduceNeg, Int.reduceLT, Int.reduceLE, Int.reduceEq, Int.reduceToNat, ↓reduceIte, decide_true, decide_false, true_and, and_true, not_false_eq_true, not_true_eq_false, Bool.not_true, Bool.not_false, Bool.not_not, Int.cast_ofNat_Int, Int.toNat_natCast, Int.reducePow, ne_eq, eq_self, and_self, Nat.le_refl, Nat.reduceLeDiff, Nat.reduceLT, Bool.false_eq_true, List.length_cons, List.length_nil, qxE]) | ((with_reducible apply Sx.known_at (f := 61)); (case h => (intro W hW; (change Gives Try.prog _ _ _ _); with_reducible exact gx_rclean h W)); (case' hk => skip)) | ((with_reducible apply Sx.asks_at (f := 61)); (case h => (intro W hW; (change Gives Try.prog _ _ _ _); with_reducible exact gx_rclean h W)); (case' hk => skip)) | ((with_reducible apply Sx.known_at (f := 53)); (case h => (intro W hW; (change Gives Try.prog _ _ _ _); with_reducible exact gx_neg f.fp W)); (case' hk => skip)) | ((with_reducible apply Sx.asks_at (f := 53)); (case h => (intro W hW; (change Gives Try.prog _ _ _ _); with_reducible exact gx_neg f.fp W)); (case' hk => skip)) | ((with_reducible apply Sx.known_at (f := 53)); (case h => (intro W hW; (change Gives Try.prog _ _ _ _); with_reducible exact gx_neg f3 W)); (case' hk => skip)) | ((with_reducible apply Sx.asks_at (f := 53)); (case h => (intro W hW; (change Gives Try.prog _ _ _ _); with_reducible exact gx_neg f3 W)); (case' hk => skip)) | ((with_reducible apply Sx.known_at (f := 24)); (case h => (intro W hW; (change Gives Try.prog _ _ _ _); with_reducible exact gx_rfloor f2.cq W)); (case' hk => skip)) | ((with_reducible apply Sx.asks_at (f := 24)); (case h => (intro W hW; (change Gives Try.prog _ _ _ _); with_reducible exact gx_rfloor f2.cq W)); (case' hk => skip)))
theorem bd_two : Bd 2 2 := by unfold Bd; decide
theorem gx_rat {v : Value} {p q n : Int} (h : CQ v p q) (hn : U64 n) (W : World) : Gives Try.prog 27 [v, .int .u64 n] W (· = WX (atq p q n)) := by
  obtain ⟨c0, c1, c2, c3, c4, c5, c6, c7, c8, c9, rfl⟩ := h.ten
  have f := h.fq
  have b1 := bd_mul f.bp (bd_u64 hn)
  have b2 := bd_mul bd_two b1
  have b3 := bd_add (c := 194) b2 f.bq (by decide) (by decide)
  have b4 := bd_mul bd_two f.bq
  have f1 := b1.fits
  have f2 := b2.fits
  have f3 := b3.fits
  have f4 := b4.fits
  have fn := (bd_u64 hn).fits
  have ft := bd_two.fits
  have i2 : I64 2 := ⟨by decide, by decide⟩
  have ne : 2 * q ≠ 0 := by have := f.pos; omega
  clear b1 b2 b3 b4
  refine gives_known en_ratio_At ?_
  refine Sx.known_of (ratio_At_start (args := [_, _]) (by simp) ?_)
  repeat' (first | (simp (disch := omega) only [Sx.sxE, ratio_At_E, Nat.reduceAdd, Nat.reduceEqDiff, Nat.reduceMul, Nat.reduceSub, Int.reduceAdd, Int.reduceSub, Int.reduceMul, Int.reduceNeg, Int.reduceLT, Int.reduceLE, Int.reduceEq, Int.reduceToNat, ↓reduceIte, decide_true, decide_false, true_and, and_true, not_false_eq_true, not_true_eq_false, Bool.not_true, Bool.not_false, Bool.not_not, Int.cast_ofNat_Int, Int.toNat_natCast, Int.reducePow, ne_eq, eq_self, and_self, Nat.le_refl, Nat.reduceLeDiff, Nat.reduceLT, Bool.false_eq_true, List.length_cons, List.length_nil, qxE]) | ((with_reducible apply Sx.known_at (f := 61)); (case h => (intro W hW; (change Gives Try.prog _ _ _ _); with_reducible exact gx_rclean h W)); (case' hk => skip)) | ((with_reducible apply Sx.asks_at (f := 61)); (case h => (intro W hW; (change Gives Try.prog _ _ _ _); with_reducible exact gx_rclean h W)); (case' hk => skip)) | ((with_reducible apply Sx.known_at (f := 60)); (case h => (intro W hW; (change Gives Try.prog _ _ _ _); with_reducible exact gx_of i2 W)); (case' hk => skip)) | ((with_reducible apply Sx.asks_at (f := 60)); (case h => (intro W hW; (change Gives Try.prog _ _ _ _); with_reducible exact gx_of i2 W)); (case' hk => skip)) | ((with_reducible apply Sx.known_at (f := 64)); (case h => (intro W hW; (change Gives Try.prog _ _ _ _); with_reducible exact gx_ofU hn W)); (case' hk => skip)) | ((with_reducible apply Sx.asks_at (f := 64)); (case h => (intro W hW; (change Gives Try.prog _ _ _ _); with_reducible exact gx_ofU hn W)); (case' hk => skip)) | ((with_reducible apply Sx.known_at (f := 63)); (case h => (intro W hW; (change Gives Try.prog _ _ _ _); with_reducible exact gx_product f.fp fn f1 W)); (case' hk => skip)) | ((with_reducible apply Sx.asks_at (f := 63)); (case h => (intro W hW; (change Gives Try.prog _ _ _ _); with_reducible exact gx_product f.fp fn f1 W)); (case' hk => skip)) | ((with_reducible apply Sx.known_at (f := 63)); (case h => (intro W hW; (change Gives Try.prog _ _ _ _); with_reducible exact gx_product ft f1 f2 W)); (case' hk => skip)) | ((with_reducible apply Sx.asks_at (f := 63)); (case h => (intro W hW; (change Gives Try.prog _ _ _ _); with_reducible exact gx_product ft f1 f2 W)); (case' hk => skip)) | ((with_reducible apply Sx.known_at (f := 63)); (case h => (intro W hW; (change Gives Try.prog _ _ _ _); with_reducible exact gx_product ft f.fq f4 W)); (case' hk => skip)) | ((with_reducible apply Sx.asks_at (f := 63)); (case h => (intro W hW; (change Gives Try.prog _ _ _ _); with_reducible exact gx_product ft f.fq f4 W)); (case' hk => skip)) | ((with_reducible apply Sx.known_at (f := 62)); (case h => (intro W hW; (change Gives Try.prog _ _ _ _); with_reducible exact gx_add f2 f.fq f3 W)); (case' hk => skip)) | ((with_reducible apply Sx.asks_at (f := 62)); (case h => (intro W hW; (change Gives Try.prog _ _ _ _); with_reducible exact gx_add f2 f.fq f3 W)); (case' hk => skip)) | ((with_reducible apply Sx.known_at (f := 55)); (case h => (intro W hW; (change Gives Try.prog _ _ _ _); with_reducible exact gx_divmod f3 f4 ne W)); (case' hk => skip)) | ((with_reducible apply Sx.asks_at (f := 55)); (case h => (intro W hW; (change Gives Try.prog _ _ _ _); with_reducible exact gx_divmod f3 f4 ne W)); (case' hk => skip)))
  rfl
/-- A raw Wide that counts as z; b: it is valid. -/
def RW (v : Value) (b : Bool) (z : Int) : Prop := (b = true ∧ v = WX z ∧ Fits z) ∨ (b = false ∧ v = NZ ∧ z = 0)
theorem RW.five {v : Value} {b : Bool} {z : Int} (h : RW v b z) : ∃ c0 c1 c2 c3 c4, v = .agg #[c0, c1, c2, c3, c4] := by
  rcases h with ⟨-, rfl, -⟩ | ⟨-, rfl, -⟩ <;> exact ⟨_, _, _, _, _, rfl⟩
theorem RW.is {v : Value} {b : Bool} {z : Int} (h : RW v b z) : IsW v z := by
  rcases h with ⟨-, rfl, h⟩ | ⟨-, rfl, rfl⟩
  · exact h.is
  · exact nz_is
theorem RW.fits {v : Value} {b : Bool} {z : Int} (h : RW v b z) : Fits z := by
  rcases h with ⟨-, rfl, h⟩ | ⟨-, rfl, rfl⟩
  · exact h
  · exact fits_zero
theorem Fits.rw {z : Int} (h : Fits z) : RW (WX z) true z := .inl ⟨rfl, rfl, h⟩
theorem rw_raw (n : Bool) {a b c d : Int} (ha : U64 a) (hb : U64 b) (hc : U64 c) (hd : U64 d) : ∃ t z, RW (WV n a b c d) t z := by
  rcases raw_cases n ha hb hc hd with ⟨z, hz, e⟩ | e
  · exact ⟨true, z, by rw [e]; exact hz.rw⟩
  · exact ⟨false, 0, .inr ⟨rfl, e, rfl⟩⟩
theorem gy_valid {v : Value} {b : Bool} {z : Int} (h : RW v b z) (W : World) : Gives Try.prog 51 [v] W (· = .bool b) := by
  rcases h with ⟨rfl, rfl, h⟩ | ⟨rfl, rfl, rfl⟩
  · exact gx_valid h W
  · exact gx_valid0 W
theorem ry_valid {v : Value} {b : Bool} {z : Int} (h : RW v b z) (W : World) : Gives Try.prog 57 [v] W (· = .bool b) := by
  rcases h with ⟨rfl, rfl, h⟩ | ⟨rfl, rfl, rfl⟩
  · exact rx_valid h W
  · exact rx_valid0 W
/-- What Make returns. -/
def mkV (b : Bool) (z y : Int) : Value := if mok b z y then .tuple #[RX (mn z y) (mD z y), .bool true] else .tuple #[RX 0 0, .bool false]
theorem cm_zero_iff (z : Int) : cm z 0 = 0 ↔ z = 0 := by rw [cm_zero]; (repeat' split) <;> omega
theorem fits_neg {z : Int} (h : Fits z) : Fits (-z) := fits_le h (by rw [ab_neg]; exact Int.le_refl _)
theorem fits_mn {z y : Int} (h : Fits z) (hy : y ≠ 0) : Fits (mn z y) := by
  unfold mn
  split
  · exact fits_ediv (fits_neg h) (by have := gc_pos (x := z) hy; omega)
  · exact fits_ediv h (by have := gc_pos (x := z) hy; omega)
theorem fits_ab {z : Int} (h : Fits z) : Fits (ab z) := fits_le h (by rw [ab_ab]; exact Int.le_refl _)
theorem fits_mD {z y : Int} (h : Fits y) (hy : y ≠ 0) : Fits (mD z y) := fits_ediv (fits_ab h) (by have := gc_pos (x := z) hy; omega)
set_option maxRecDepth 100000 in
theorem gx_rmake {v v' : Value} {b b' : Bool} {z y : Int} (h : RW v b z) (h' : RW v' b' y) (W : World) : Gives Try.prog 19 [v, v'] W (· = mkV (b && b') z y) := by
  refine gives_known en_ratio_Make ?_
  have v1 := fun W => gy_valid h W
  have v2 := fun W => gy_valid h' W
  have s2 := fun W => g_sign h'.is W
  by_cases hbad : b = false ∨ b' = false ∨ y = 0
  · have e : mkV (b && b') z y = .tuple #[RX 0 0, .bool false] := by
      unfold mkV mok
      rcases hbad with rfl | rfl | rfl
      · rfl
      · rw [Bool.and_false]; rfl
      · rw [if_neg (by simp)]
    rw [e]
    obtain ⟨c0, c1, c2, c3, c4, rfl⟩ := h.five
    obtain ⟨d0, d1, d2, d3, d4, rfl⟩ := h'.five
    have hcm := cm_zero_iff y
    clear e h h'
    cases b
    · refine Sx.known_of (ratio_Make_start (args := [_, _]) (by simp) ?_)
      repeat' (first | (simp (disch := omega) only [Sx.sxE, ratio_Make_E, Nat.reduceAdd, Nat.reduceEqDiff, Nat.reduceMul, Nat.reduceSub, Int.reduceAdd, Int.reduceSub, Int.reduceMul, Int.reduceNeg, Int.reduceLT, Int.reduceLE, Int.reduceEq, Int.reduceToNat, ↓reduceIte, decide_true, decide_false, true_and, and_true, not_false_eq_true, not_true_eq_false, Bool.not_true, Bool.not_false, Bool.not_not, Int.cast_ofNat_Int, Int.toNat_natCast, Int.reducePow, ne_eq, eq_self, and_self, Nat.le_refl, Nat.reduceLeDiff, Nat.reduceLT, Bool.false_eq_true, List.length_cons, List.length_nil, qxE]) | ((with_reducible apply Sx.known_at (f := 51)); (case h => (intro W hW; (change Gives Try.prog _ _ _ _); with_reducible exact v1 W)); (case' hk => skip)) | ((with_reducible apply Sx.asks_at (f := 51)); (case h => (intro W hW; (change Gives Try.prog _ _ _ _); with_reducible exact v1 W)); (case' hk => skip)))
    · cases b'
      · refine Sx.known_of (ratio_Make_start (args := [_, _]) (by simp) ?_)
        repeat' (first | (simp (disch := omega) only [Sx.sxE, ratio_Make_E, Nat.reduceAdd, Nat.reduceEqDiff, Nat.reduceMul, Nat.reduceSub, Int.reduceAdd, Int.reduceSub, Int.reduceMul, Int.reduceNeg, Int.reduceLT, Int.reduceLE, Int.reduceEq, Int.reduceToNat, ↓reduceIte, decide_true, decide_false, true_and, and_true, not_false_eq_true, not_true_eq_false, Bool.not_true, Bool.not_false, Bool.not_not, Int.cast_ofNat_Int, Int.toNat_natCast, Int.reducePow, ne_eq, eq_self, and_self, Nat.le_refl, Nat.reduceLeDiff, Nat.reduceLT, Bool.false_eq_true, List.length_cons, List.length_nil, qxE]) | ((with_reducible apply Sx.known_at (f := 51)); (case h => (intro W hW; (change Gives Try.prog _ _ _ _); with_reducible exact v1 W)); (case' hk => skip)) | ((with_reducible apply Sx.asks_at (f := 51)); (case h => (intro W hW; (change Gives Try.prog _ _ _ _); with_reducible exact v1 W)); (case' hk => skip)) | ((with_reducible apply Sx.known_at (f := 51)); (case h => (intro W hW; (change Gives Try.prog _ _ _ _); with_reducible exact v2 W)); (case' hk => skip)) | ((with_reducible apply Sx.asks_at (f := 51)); (case h => (intro W hW; (change Gives Try.prog _ _ _ _); with_reducible exact v2 W)); (case' hk => skip)))
      · have hc0 : cm y 0 = 0 := hcm.2 (by rcases hbad with h | h | h; cases h; cases h; exact h)
        clear hcm hbad
        refine Sx.known_of (ratio_Make_start (args := [_, _]) (by simp) ?_)
        repeat' (first | (simp (disch := omega) only [Sx.sxE, ratio_Make_E, Nat.reduceAdd, Nat.reduceEqDiff, Nat.reduceMul, Nat.reduceSub, Int.reduceAdd, Int.reduceSub, Int.reduceMul, Int.reduceNeg, Int.reduceLT, Int.reduceLE, Int.reduceEq, Int.reduceToNat, ↓reduceIte, decide_true, decide_false, true_and, and_true, not_false_eq_true, not_true_eq_false, Bool.not_true, Bool.not_false, Bool.not_not, Int.cast_ofNat_Int, Int.toNat_natCast, Int.reducePow, ne_eq, eq_self, and_self, Nat.le_refl, Nat.reduceLeDiff, Nat.reduceLT, Bool.false_eq_true, List.length_cons, List.length_nil, qxE, hc0]) | ((with_reducible apply Sx.known_at (f := 51)); (case h => (intro W hW; (change Gives Try.prog _ _ _ _); with_reducible exact v1 W)); (case' hk => skip)) | ((with_reducible apply Sx.asks_at (f := 51)); (case h => (intro W hW; (change Gives Try.prog _ _ _ _); with_reducible exact v1 W)); (case' hk => skip)) | ((with_reducible apply Sx.known_at (f := 51)); (case h => (intro W hW; (change Gives Try.prog _ _ _ _); with_reducible exact v2 W)); (case' hk => skip)) | ((with_reducible apply Sx.asks_at (f := 51)); (case h => (intro W hW; (change Gives Try.prog _ _ _ _); with_reducible exact v2 W)); (case' hk => skip)) | ((with_reducible apply Sx.known_at (f := 52)); (case h => (intro W hW; (change Gives Try.prog _ _ _ _); with_reducible exact s2 W)); (case' hk => skip)) | ((with_reducible apply Sx.asks_at (f := 52)); (case h => (intro W hW; (change Gives Try.prog _ _ _ _); with_reducible exact s2 W)); (case' hk => skip)))
  · obtain ⟨rfl, rfl⟩ : b = true ∧ b' = true := by
      cases b
      · exact absurd (.inl rfl) hbad
      · cases b'
        · exact absurd (.inr (.inl rfl)) hbad
        · exact ⟨rfl, rfl⟩
    have hy : y ≠ 0 := fun e => hbad (.inr (.inr e))
    rcases h with ⟨-, rfl, h⟩ | ⟨h, -, -⟩
    rotate_left
    · cases h
    rcases h' with ⟨-, rfl, h'⟩ | ⟨h', -, -⟩
    rotate_left
    · cases h'
    have hc0 : cm y 0 ≠ 0 := fun e => hy ((cm_zero_iff y).1 e)
    have f1 := fits_mn h hy
    have f2 := fits_mD (z := z) h' hy
    have hg := fits_gc h h'
    have hgp := gc_pos (x := z) hy
    have hgn : gc z y ≠ 0 := by omega
    have e : mkV (true && true) z y = if (decide (ab (mn z y) < ((2 ^ 127 : Nat) : Int)) && decide (ab (mD z y) < ((2 ^ 127 : Nat) : Int))) = true then .tuple #[RX (mn z y) (mD z y), .bool true] else .tuple #[RX 0 0, .bool false] := by
      unfold mkV mok
      rw [decide_eq_false hy]; rfl
    rw [e]
    have k1 := fun W => gx_small f1 W
    have k2 := fun W => gx_small f2 W
    generalize decide (ab (mn z y) < ((2 ^ 127 : Nat) : Int)) = t1 at *
    generalize decide (ab (mD z y) < ((2 ^ 127 : Nat) : Int)) = t2 at *
    clear e hbad
    by_cases hneg : y < 0
    · have hs : sg y = true := decide_eq_true hneg
      have n1 := fits_neg h
      have n2 := fits_neg h'
      have e1 : -z / gc z y = mn z y := by unfold mn; rw [if_pos hneg]
      have e2 : -y / gc z y = mD z y := by unfold mD ab; rw [if_pos hneg]
      have d1 := fun W => gx_divmod n1 hg hgn W
      have d2 := fun W => gx_divmod n2 hg hgn W
      rw [e1] at d1
      rw [e2] at d2
      have g1 := fun W => gx_divisor n1 n2 W
      rw [gc_neg, gc_ngr] at g1
      generalize mn z y = N at *
      generalize mD z y = D at *
      generalize gc z y = G at *
      cases t1 <;> cases t2
      all_goals
        refine Sx.known_of (ratio_Make_start (args := [_, _]) (by simp) ?_)
        repeat' (first | (simp (disch := omega) only [Sx.sxE, ratio_Make_E, Nat.reduceAdd, Nat.reduceEqDiff, Nat.reduceMul, Nat.reduceSub, Int.reduceAdd, Int.reduceSub, Int.reduceMul, Int.reduceNeg, Int.reduceLT, Int.reduceLE, Int.reduceEq, Int.reduceToNat, ↓reduceIte, decide_true, decide_false, true_and, and_true, not_false_eq_true, not_true_eq_false, Bool.not_true, Bool.not_false, Bool.not_not, Int.cast_ofNat_Int, Int.toNat_natCast, Int.reducePow, ne_eq, eq_self, and_self, Nat.le_refl, Nat.reduceLeDiff, Nat.reduceLT, Bool.false_eq_true, List.length_cons, List.length_nil, qxE]) | ((with_reducible apply Sx.known_at (f := 51)); (case h => (intro W hW; (change Gives Try.prog _ _ _ _); with_reducible exact v1 W)); (case' hk => skip)) | ((with_reducible apply Sx.asks_at (f := 51)); (case h => (intro W hW; (change Gives Try.prog _ _ _ _); with_reducible exact v1 W)); (case' hk => skip)) | ((with_reducible apply Sx.known_at (f := 51)); (case h => (intro W hW; (change Gives Try.prog _ _ _ _); with_reducible exact v2 W)); (case' hk => skip)) | ((with_reducible apply Sx.asks_at (f := 51)); (case h => (intro W hW; (change Gives Try.prog _ _ _ _); with_reducible exact v2 W)); (case' hk => skip)) | ((with_reducible apply Sx.known_at (f := 52)); (case h => (intro W hW; (change Gives Try.prog _ _ _ _); with_reducible exact s2 W)); (case' hk => skip)) | ((with_reducible apply Sx.asks_at (f := 52)); (case h => (intro W hW; (change Gives Try.prog _ _ _ _); with_reducible exact s2 W)); (case' hk => skip)) | ((with_reducible apply Sx.known_at (f := 53)); (case h => (intro W hW; (change Gives Try.prog _ _ _ _); with_reducible exact gx_neg h W)); (case' hk => skip)) | ((with_reducible apply Sx.asks_at (f := 53)); (case h => (intro W hW; (change Gives Try.prog _ _ _ _); with_reducible exact gx_neg h W)); (case' hk => skip)) | ((with_reducible apply Sx.known_at (f := 53)); (case h => (intro W hW; (change Gives Try.prog _ _ _ _); with_reducible exact gx_neg h' W)); (case' hk => skip)) | ((with_reducible apply Sx.asks_at (f := 53)); (case h => (intro W hW; (change Gives Try.prog _ _ _ _); with_reducible exact gx_neg h' W)); (case' hk => skip)) | ((with_reducible apply Sx.known_at (f := 54)); (case h => (intro W hW; (change Gives Try.prog _ _ _ _); with_reducible exact g1 W)); (case' hk => skip)) | ((with_reducible apply Sx.asks_at (f := 54)); (case h => (intro W hW; (change Gives Try.prog _ _ _ _); with_reducible exact g1 W)); (case' hk => skip)) | ((with_reducible apply Sx.known_at (f := 55)); (case h => (intro W hW; (change Gives Try.prog _ _ _ _); with_reducible exact d1 W)); (case' hk => skip)) | ((with_reducible apply Sx.asks_at (f := 55)); (case h => (intro W hW; (change Gives Try.prog _ _ _ _); with_reducible exact d1 W)); (case' hk => skip)) | ((with_reducible apply Sx.known_at (f := 55)); (case h => (intro W hW; (change Gives Try.prog _ _ _ _); with_reducible exact d2 W)); (case' hk => skip)) | ((with_reducible apply Sx.asks_at (f := 55)); (case h => (intro W hW; (change Gives Try.prog _ _ _ _); with_reducible exact d2 W)); (case' hk => skip)) | ((with_reducible apply Sx.known_at (f := 56)); (case h => (intro W hW; (change Gives Try.prog _ _ _ _); with_reducible exact k1 W)); (case' hk => skip)) | ((with_reducible apply Sx.asks_at (f := 56)); (case h => (intro W hW; (change Gives Try.prog _ _ _ _); with_reducible exact k1 W)); (case' hk => skip)) | ((with_reducible apply Sx.known_at (f := 56)); (case h => (intro W hW; (change Gives Try.prog _ _ _ _); with_reducible exact k2 W)); (case' hk => skip)) | ((with_reducible apply Sx.asks_at (f := 56)); (case h => (intro W hW; (change Gives Try.prog _ _ _ _); with_reducible exact k2 W)); (case' hk => skip)))
        try rfl
    · have e1 : z / gc z y = mn z y := by unfold mn; rw [if_neg hneg]
      have e2 : y / gc z y = mD z y := by unfold mD ab; rw [if_neg hneg]
      have d1 := fun W => gx_divmod h hg hgn W
      have d2 := fun W => gx_divmod h' hg hgn W
      rw [e1] at d1
      rw [e2] at d2
      have g1 := fun W => gx_divisor h h' W
      generalize mn z y = N at *
      generalize mD z y = D at *
      generalize gc z y = G at *
      cases t1 <;> cases t2
      all_goals
        refine Sx.known_of (ratio_Make_start (args := [_, _]) (by simp) ?_)
        repeat' (first | (simp (disch := omega) only [Sx.sxE, ratio_Make_E, Nat.reduceAdd, Nat.reduceEqDiff, Nat.reduceMul, Nat.reduceSub, Int.reduceAdd, Int.reduceSub, Int.reduceMul, Int.reduceNeg, Int.reduceLT, Int.reduceLE, Int.reduceEq, Int.reduceToNat, ↓reduceIte, decide_true, decide_false, true_and, and_true, not_false_eq_true, not_true_eq_false, Bool.not_true, Bool.not_false, Bool.not_not, Int.cast_ofNat_Int, Int.toNat_natCast, Int.reducePow, ne_eq, eq_self, and_self, Nat.le_refl, Nat.reduceLeDiff, Nat.reduceLT, Bool.false_eq_true, List.length_cons, List.length_nil, qxE]) | ((with_reducible apply Sx.known_at (f := 51)); (case h => (intro W hW; (change Gives Try.prog _ _ _ _); with_reducible exact v1 W)); (case' hk => skip)) | ((with_reducible apply Sx.asks_at (f := 51)); (case h => (intro W hW; (change Gives Try.prog _ _ _ _); with_reducible exact v1 W)); (case' hk => skip)) | ((with_reducible apply Sx.known_at (f := 51)); (case h => (intro W hW; (change Gives Try.prog _ _ _ _); with_reducible exact v2 W)); (case' hk => skip)) | ((with_reducible apply Sx.asks_at (f := 51)); (case h => (intro W hW; (change Gives Try.prog _ _ _ _); with_reducible exact v2 W)); (case' hk => skip)) | ((with_reducible apply Sx.known_at (f := 52)); (case h => (intro W hW; (change Gives Try.prog _ _ _ _); with_reducible exact s2 W)); (case' hk => skip)) | ((with_reducible apply Sx.asks_at (f := 52)); (case h => (intro W hW; (change Gives Try.prog _ _ _ _); with_reducible exact s2 W)); (case' hk => skip)) | ((with_reducible apply Sx.known_at (f := 54)); (case h => (intro W hW; (change Gives Try.prog _ _ _ _); with_reducible exact g1 W)); (case' hk => skip)) | ((with_reducible apply Sx.asks_at (f := 54)); (case h => (intro W hW; (change Gives Try.prog _ _ _ _); with_reducible exact g1 W)); (case' hk => skip)) | ((with_reducible apply Sx.known_at (f := 55)); (case h => (intro W hW; (change Gives Try.prog _ _ _ _); with_reducible exact d1 W)); (case' hk => skip)) | ((with_reducible apply Sx.asks_at (f := 55)); (case h => (intro W hW; (change Gives Try.prog _ _ _ _); with_reducible exact d1 W)); (case' hk => skip)) | ((with_reducible apply Sx.known_at (f := 55)); (case h => (intro W hW; (change Gives Try.prog _ _ _ _); with_reducible exact d2 W)); (case' hk => skip)) | ((with_reducible apply Sx.asks_at (f := 55)); (case h => (intro W hW; (change Gives Try.prog _ _ _ _); with_reducible exact d2 W)); (case' hk => skip)) | ((with_reducible apply Sx.known_at (f := 56)); (case h => (intro W hW; (change Gives Try.prog _ _ _ _); with_reducible exact k1 W)); (case' hk => skip)) | ((with_reducible apply Sx.asks_at (f := 56)); (case h => (intro W hW; (change Gives Try.prog _ _ _ _); with_reducible exact k1 W)); (case' hk => skip)) | ((with_reducible apply Sx.known_at (f := 56)); (case h => (intro W hW; (change Gives Try.prog _ _ _ _); with_reducible exact k2 W)); (case' hk => skip)) | ((with_reducible apply Sx.asks_at (f := 56)); (case h => (intro W hW; (change Gives Try.prog _ _ _ _); with_reducible exact k2 W)); (case' hk => skip)))
        try rfl
end Go.Proofs.Ytlanoclibdhpmaa

/- CdX: MADE BY PROGRAM (sxgen.py): the small code of some functions, points of it and their equations. -/
namespace Go.Proofs.Ytlanoclibdhpmaa
open Go Go.RowKit Sx
set_option linter.unusedVariables false
variable (C : Cx) (R L1 L2 L3 L4 : St → Prop)
def r03_At_r0 : List G := [(some 2, none, (.box true 10 (.tmp 0))), (some 4, none, (.new zW))]
def r03_At_c2 : MC := (.reg r03_At_r0 (some [1, 2, 4]))
def r03_At_r1 : List G := [(some 12, none, (.ld true 10 (.tmp 2))), (some 13, none, (.call false 65 [(.tmp 12)])), (none, none, (.st true 10 (.tmp 2) (.tmp 13)))]
def r03_At_c4 : MC := (.reg r03_At_r1 (some [1, 2, 4]))
def r03_At_r2 : List G := [(some 15, none, (.fa 0 (.tmp 2))), (some 16, none, (.ld true 5 (.tmp 15))), (some 17, none, (.mv (.tmp 1))), (some 18, none, (.call true 31 [(.tmp 17)])), (some 19, none, (.call true 29 [(.tmp 16), (.tmp 18)])), (some 14, none, (.mv (.tmp 19))), (some 20, none, (.ex (.tmp 14) 0)), (some 21, none, (.ex (.tmp 14) 1))]
def r03_At_t2 : List G := [(some 5, none, (.new zW)), (none, none, (.st true 5 (.tmp 5) (.tmp 20))), (some 6, none, (.mv (.tmp 21)))]
def r03_At_c6 : MC := (.dreg r03_At_r2 r03_At_t2 (some [2, 4, 5]))
def r03_At_r3 : List G := [(some 23, none, (.ld true 5 (.tmp 5))), (some 24, none, (.ld true 5 (.tmp 5))), (some 25, none, (.call false 32 [(.tmp 23), (.tmp 24)])), (some 22, none, (.mv (.tmp 25))), (some 26, none, (.ex (.tmp 22) 0)), (some 27, none, (.ex (.tmp 22) 1)), (none, none, (.st true 5 (.tmp 5) (.tmp 26)))]
def r03_At_c8 : MC := (.reg r03_At_r3 (some [2, 4, 5]))
def r03_At_r4 : List G := [(some 29, none, (.ld true 5 (.tmp 5))), (some 30, none, (.fa 5 (.tmp 2))), (some 31, none, (.ld true 5 (.tmp 30))), (some 32, none, (.call false 32 [(.tmp 29), (.tmp 31)])), (some 28, none, (.mv (.tmp 32))), (some 33, none, (.ex (.tmp 28) 0)), (some 34, none, (.ex (.tmp 28) 1)), (none, none, (.st true 5 (.tmp 5) (.tmp 33)))]
def r03_At_c10 : MC := (.reg r03_At_r4 (some [2, 4, 5]))
def r03_At_r5 : List G := [(some 36, none, (.fa 5 (.tmp 2))), (some 37, none, (.ld true 5 (.tmp 36))), (some 38, none, (.fa 5 (.tmp 2))), (some 39, none, (.ld true 5 (.tmp 38))), (some 40, none, (.call false 32 [(.tmp 37), (.tmp 39)])), (some 35, none, (.mv (.tmp 40))), (some 41, none, (.ex (.tmp 35) 0)), (some 42, none, (.ex (.tmp 35) 1)), (some 7, none, (.new zW)), (none, none, (.st true 5 (.tmp 7) (.tmp 41))), (some 8, none, (.mv (.tmp 42)))]
def r03_At_c12 : MC := (.reg r03_At_r5 (some [4, 5, 7]))
def r03_At_r6 : List G := [(some 44, none, (.ld true 5 (.tmp 5))), (some 45, none, (.ld true 5 (.tmp 7))), (some 46, none, (.call false 46 [(.tmp 44), (.tmp 45)])), (some 43, none, (.mv (.tmp 46))), (some 47, none, (.ex (.tmp 43) 0)), (some 48, none, (.ex (.tmp 43) 1)), (some 49, none, (.ex (.tmp 43) 2)), (some 9, none, (.new zW)), (some 10, none, (.new zW)), (none, none, (.st true 5 (.tmp 9) (.tmp 47))), (none, none, (.st true 5 (.tmp 10) (.tmp 48))), (some 11, none, (.mv (.tmp 49)))]
def r03_At_c14 : MC := (.reg r03_At_r6 (some [4, 9]))
def r03_At_r7 : List G := [(some 50, none, (.ld true 5 (.tmp 9))), (none, none, (.st true 5 (.tmp 4) (.tmp 50)))]
def r03_At_c16 : MC := (.reg r03_At_r7 (some [4]))
def r03_At_c15 : MC := (.seq r03_At_c16 .ret)
def r03_At_c13 : MC := (.seq r03_At_c14 r03_At_c15)
def r03_At_c11 : MC := (.seq r03_At_c12 r03_At_c13)
def r03_At_c9 : MC := (.seq r03_At_c10 r03_At_c11)
def r03_At_c7 : MC := (.seq r03_At_c8 r03_At_c9)
def r03_At_c5 : MC := (.seq r03_At_c6 r03_At_c7)
def r03_At_c3 : MC := (.seq r03_At_c4 r03_At_c5)
def r03_At_c1 : MC := (.seq r03_At_c2 r03_At_c3)
def r03_At_ann : Ann := [(0, (some [1, 2, 4], 0, [], [], [])), (1, (some [1, 2, 4], 0, [], [], [])), (2, (some [2, 4, 5], 9, [7], [(0, 0), (1, 0), (2, 0), (3, 0), (4, 0), (5, 0), (6, 0), (7, 2)], [8])), (3, (some [2, 4, 5], 0, [], [], [])), (4, (some [2, 4, 5], 0, [], [], [])), (5, (some [4, 5, 7], 0, [], [], [])), (6, (some [4, 9], 0, [], [], [])), (7, (some [4], 0, [], [], []))]
theorem r03_At_ok : compF Try.prog Try.f76 r03_At_ann = some (51, r03_At_c1, [(4, some (true, 5))]) := by kernel_rfl
def r03_At_p1 : St → Prop := X C r03_At_c16 (thenK R (retK R))
theorem r03_At_p1_e (S : St) : r03_At_p1 C R S = Sx.ops C r03_At_r7 (kq [4] R) S := rfl
def r03_At_p2 : St → Prop := X C r03_At_c14 (thenK (r03_At_p1 C R) (retK R))
theorem r03_At_p2_e (S : St) : r03_At_p2 C R S = Sx.ops C r03_At_r6 (kq [4, 9] (r03_At_p1 C R)) S := rfl
def r03_At_p3 : St → Prop := X C r03_At_c12 (thenK (r03_At_p2 C R) (retK R))
theorem r03_At_p3_e (S : St) : r03_At_p3 C R S = Sx.ops C r03_At_r5 (kq [4, 5, 7] (r03_At_p2 C R)) S := rfl
def r03_At_p4 : St → Prop := X C r03_At_c10 (thenK (r03_At_p3 C R) (retK R))
theorem r03_At_p4_e (S : St) : r03_At_p4 C R S = Sx.ops C r03_At_r4 (kq [2, 4, 5] (r03_At_p3 C R)) S := rfl
def r03_At_p5 : St → Prop := X C r03_At_c8 (thenK (r03_At_p4 C R) (retK R))
theorem r03_At_p5_e (S : St) : r03_At_p5 C R S = Sx.ops C r03_At_r3 (kq [2, 4, 5] (r03_At_p4 C R)) S := rfl
def r03_At_p6 : St → Prop := X C r03_At_c6 (thenK (r03_At_p5 C R) (retK R))
theorem r03_At_p6_e (S : St) : r03_At_p6 C R S = Sx.ops C r03_At_r2 (Sx.ops C r03_At_t2 (kq [2, 4, 5] (r03_At_p5 C R))) S := rfl
def r03_At_p7 : St → Prop := X C r03_At_c4 (thenK (r03_At_p6 C R) (retK R))
theorem r03_At_p7_e (S : St) : r03_At_p7 C R S = Sx.ops C r03_At_r1 (kq [1, 2, 4] (r03_At_p6 C R)) S := rfl
def r03_At_p8 : St → Prop := X C r03_At_c2 (thenK (r03_At_p7 C R) (retK R))
theorem r03_At_p8_e (S : St) : r03_At_p8 C R S = Sx.ops C r03_At_r0 (kq [1, 2, 4] (r03_At_p7 C R)) S := rfl
set_option maxRecDepth 100000 in
theorem r03_At_s (S : St) : X C r03_At_c1 (retK R) S = (r03_At_p8 C R) S := rfl
theorem r03_At_start {R : Value → Prop} {args : List Value} {w : World} : type_of% (enter (R := R) (args := args) (w := w) Try.func76 r03_At_ok) := enter Try.func76 r03_At_ok
theorem r03_At_E : type_of% @r03_At_r7.eq_1 ∧ type_of% @r03_At_p1_e ∧ type_of% @r03_At_r6.eq_1 ∧ type_of% @r03_At_p2_e ∧ type_of% @r03_At_r5.eq_1 ∧ type_of% @r03_At_p3_e ∧ type_of% @r03_At_r4.eq_1 ∧ type_of% @r03_At_p4_e ∧ type_of% @r03_At_r3.eq_1 ∧ type_of% @r03_At_p5_e ∧ type_of% @r03_At_r2.eq_1 ∧ type_of% @r03_At_t2.eq_1 ∧ type_of% @r03_At_p6_e ∧ type_of% @r03_At_r1.eq_1 ∧ type_of% @r03_At_p7_e ∧ type_of% @r03_At_r0.eq_1 ∧ type_of% @r03_At_p8_e ∧ type_of% @r03_At_s := ⟨@r03_At_r7.eq_1, @r03_At_p1_e, @r03_At_r6.eq_1, @r03_At_p2_e, @r03_At_r5.eq_1, @r03_At_p3_e, @r03_At_r4.eq_1, @r03_At_p4_e, @r03_At_r3.eq_1, @r03_At_p5_e, @r03_At_r2.eq_1, @r03_At_t2.eq_1, @r03_At_p6_e, @r03_At_r1.eq_1, @r03_At_p7_e, @r03_At_r0.eq_1, @r03_At_p8_e, @r03_At_s⟩
def r03_Ceil_r0 : List G := [(some 1, none, (.box true 10 (.tmp 0))), (some 2, none, (.new zW))]
def r03_Ceil_c2 : MC := (.reg r03_Ceil_r0 (some [1, 2]))
def r03_Ceil_r1 : List G := [(some 6, none, (.ld true 10 (.tmp 1))), (some 7, none, (.call false 65 [(.tmp 6)])), (none, none, (.st true 10 (.tmp 1) (.tmp 7)))]
def r03_Ceil_c4 : MC := (.reg r03_Ceil_r1 (some [1, 2]))
def r03_Ceil_r2 : List G := [(some 9, none, (.fa 0 (.tmp 1))), (some 10, none, (.ld true 5 (.tmp 9))), (some 11, none, (.call true 48 [(.tmp 10)])), (some 12, none, (.fa 5 (.tmp 1))), (some 13, none, (.ld true 5 (.tmp 12))), (some 14, none, (.call true 46 [(.tmp 11), (.tmp 13)])), (some 8, none, (.mv (.tmp 14))), (some 15, none, (.ex (.tmp 8) 0)), (some 16, none, (.ex (.tmp 8) 1)), (some 17, none, (.ex (.tmp 8) 2))]
def r03_Ceil_t2 : List G := [(some 3, none, (.new zW)), (some 4, none, (.new zW)), (none, none, (.st true 5 (.tmp 3) (.tmp 15))), (none, none, (.st true 5 (.tmp 4) (.tmp 16))), (some 5, none, (.mv (.tmp 17)))]
def r03_Ceil_c6 : MC := (.dreg r03_Ceil_r2 r03_Ceil_t2 (some [2, 3]))
def r03_Ceil_r3 : List G := [(some 18, none, (.ld true 5 (.tmp 3))), (some 19, none, (.call false 48 [(.tmp 18)])), (none, none, (.st true 5 (.tmp 2) (.tmp 19)))]
def r03_Ceil_c8 : MC := (.reg r03_Ceil_r3 (some [2]))
def r03_Ceil_c7 : MC := (.seq r03_Ceil_c8 .ret)
def r03_Ceil_c5 : MC := (.seq r03_Ceil_c6 r03_Ceil_c7)
def r03_Ceil_c3 : MC := (.seq r03_Ceil_c4 r03_Ceil_c5)
def r03_Ceil_c1 : MC := (.seq r03_Ceil_c2 r03_Ceil_c3)
def r03_Ceil_ann : Ann := [(0, (some [1, 2], 0, [], [], [])), (1, (some [1, 2], 0, [], [], [])), (2, (some [2, 3], 12, [8, 9], [(0, 0), (1, 0), (2, 0), (3, 0), (4, 0), (5, 0), (6, 0), (7, 0), (8, 2), (9, 2)], [10, 11])), (3, (some [2], 0, [], [], []))]
theorem r03_Ceil_ok : compF Try.prog Try.f75 r03_Ceil_ann = some (20, r03_Ceil_c1, [(2, some (true, 5))]) := by kernel_rfl
def r03_Ceil_p1 : St → Prop := X C r03_Ceil_c8 (thenK R (retK R))
theorem r03_Ceil_p1_e (S : St) : r03_Ceil_p1 C R S = Sx.ops C r03_Ceil_r3 (kq [2] R) S := rfl
def r03_Ceil_p2 : St → Prop := X C r03_Ceil_c6 (thenK (r03_Ceil_p1 C R) (retK R))
theorem r03_Ceil_p2_e (S : St) : r03_Ceil_p2 C R S = Sx.ops C r03_Ceil_r2 (Sx.ops C r03_Ceil_t2 (kq [2, 3] (r03_Ceil_p1 C R))) S := rfl
def r03_Ceil_p3 : St → Prop := X C r03_Ceil_c4 (thenK (r03_Ceil_p2 C R) (retK R))
theorem r03_Ceil_p3_e (S : St) : r03_Ceil_p3 C R S = Sx.ops C r03_Ceil_r1 (kq [1, 2] (r03_Ceil_p2 C R)) S := rfl
def r03_Ceil_p4 : St → Prop := X C r03_Ceil_c2 (thenK (r03_Ceil_p3 C R) (retK R))
theorem r03_Ceil_p4_e (S : St) : r03_Ceil_p4 C R S = Sx.ops C r03_Ceil_r0 (kq [1, 2] (r03_Ceil_p3 C R)) S := rfl
set_option maxRecDepth 100000 in
theorem r03_Ceil_s (S : St) : X C r03_Ceil_c1 (retK R) S = (r03_Ceil_p4 C R) S := rfl
theorem r03_Ceil_start {R : Value → Prop} {args : List Value} {w : World} : type_of% (enter (R := R) (args := args) (w := w) Try.func75 r03_Ceil_ok) := enter Try.func75 r03_Ceil_ok
theorem r03_Ceil_E : type_of% @r03_Ceil_r3.eq_1 ∧ type_of% @r03_Ceil_p1_e ∧ type_of% @r03_Ceil_r2.eq_1 ∧ type_of% @r03_Ceil_t2.eq_1 ∧ type_of% @r03_Ceil_p2_e ∧ type_of% @r03_Ceil_r1.eq_1 ∧ type_of% @r03_Ceil_p3_e ∧ type_of% @r03_Ceil_r0.eq_1 ∧ type_of% @r03_Ceil_p4_e ∧ type_of% @r03_Ceil_s := ⟨@r03_Ceil_r3.eq_1, @r03_Ceil_p1_e, @r03_Ceil_r2.eq_1, @r03_Ceil_t2.eq_1, @r03_Ceil_p2_e, @r03_Ceil_r1.eq_1, @r03_Ceil_p3_e, @r03_Ceil_r0.eq_1, @r03_Ceil_p4_e, @r03_Ceil_s⟩
def r03_Compare_r0 : List G := [(some 2, none, (.box true 10 (.tmp 0))), (some 3, none, (.box true 10 (.tmp 1))), (some 4, none, (.mv (.const (.int .i64 0))))]
def r03_Compare_c2 : MC := (.reg r03_Compare_r0 (some [2, 3]))
def r03_Compare_r1 : List G := [(some 9, none, (.ld true 10 (.tmp 2))), (some 10, none, (.call true 65 [(.tmp 9)])), (some 11, none, (.ld true 10 (.tmp 3))), (some 12, none, (.call true 65 [(.tmp 11)]))]
def r03_Compare_t1 : List G := [(none, none, (.st true 10 (.tmp 2) (.tmp 10))), (none, none, (.st true 10 (.tmp 3) (.tmp 12)))]
def r03_Compare_c4 : MC := (.dreg r03_Compare_r1 r03_Compare_t1 (some [2, 3]))
def r03_Compare_r2 : List G := [(some 14, none, (.fa 0 (.tmp 2))), (some 15, none, (.ld true 5 (.tmp 14))), (some 16, none, (.fa 5 (.tmp 3))), (some 17, none, (.ld true 5 (.tmp 16))), (some 18, none, (.call false 29 [(.tmp 15), (.tmp 17)])), (some 13, none, (.mv (.tmp 18))), (some 19, none, (.ex (.tmp 13) 0)), (some 20, none, (.ex (.tmp 13) 1)), (some 5, none, (.new zW)), (none, none, (.st true 5 (.tmp 5) (.tmp 19))), (some 6, none, (.mv (.tmp 20)))]
def r03_Compare_c6 : MC := (.reg r03_Compare_r2 (some [2, 3, 5]))
def r03_Compare_r3 : List G := [(some 22, none, (.fa 0 (.tmp 3))), (some 23, none, (.ld true 5 (.tmp 22))), (some 24, none, (.fa 5 (.tmp 2))), (some 25, none, (.ld true 5 (.tmp 24))), (some 26, none, (.call false 29 [(.tmp 23), (.tmp 25)])), (some 21, none, (.mv (.tmp 26))), (some 27, none, (.ex (.tmp 21) 0)), (some 28, none, (.ex (.tmp 21) 1)), (some 7, none, (.new zW)), (none, none, (.st true 5 (.tmp 7) (.tmp 27))), (some 8, none, (.mv (.tmp 28)))]
def r03_Compare_c8 : MC := (.reg r03_Compare_r3 (some [5, 7]))
def r03_Compare_r4 : List G := [(some 29, none, (.ld true 5 (.tmp 5))), (some 30, none, (.ld true 5 (.tmp 7))), (some 31, none, (.call false 33 [(.tmp 29), (.tmp 30)])), (some 4, none, (.mv (.tmp 31)))]
def r03_Compare_c10 : MC := (.reg r03_Compare_r4 (some [4]))
def r03_Compare_c9 : MC := (.seq r03_Compare_c10 .ret)
def r03_Compare_c7 : MC := (.seq r03_Compare_c8 r03_Compare_c9)
def r03_Compare_c5 : MC := (.seq r03_Compare_c6 r03_Compare_c7)
def r03_Compare_c3 : MC := (.seq r03_Compare_c4 r03_Compare_c5)
def r03_Compare_c1 : MC := (.seq r03_Compare_c2 r03_Compare_c3)
def r03_Compare_ann : Ann := [(0, (some [2, 3], 0, [], [], [])), (1, (some [2, 3], 4, [], [(0, 0), (1, 0), (2, 0), (3, 0)], [])), (2, (some [2, 3, 5], 0, [], [], [])), (3, (some [5, 7], 0, [], [], [])), (4, (some [4], 0, [], [], []))]
theorem r03_Compare_ok : compF Try.prog Try.f28 r03_Compare_ann = some (32, r03_Compare_c1, [(4, none)]) := by kernel_rfl
def r03_Compare_p1 : St → Prop := X C r03_Compare_c10 (thenK R (retK R))
theorem r03_Compare_p1_e (S : St) : r03_Compare_p1 C R S = Sx.ops C r03_Compare_r4 (kq [4] R) S := rfl
def r03_Compare_p2 : St → Prop := X C r03_Compare_c8 (thenK (r03_Compare_p1 C R) (retK R))
theorem r03_Compare_p2_e (S : St) : r03_Compare_p2 C R S = Sx.ops C r03_Compare_r3 (kq [5, 7] (r03_Compare_p1 C R)) S := rfl
def r03_Compare_p3 : St → Prop := X C r03_Compare_c6 (thenK (r03_Compare_p2 C R) (retK R))
theorem r03_Compare_p3_e (S : St) : r03_Compare_p3 C R S = Sx.ops C r03_Compare_r2 (kq [2, 3, 5] (r03_Compare_p2 C R)) S := rfl
def r03_Compare_p4 : St → Prop := X C r03_Compare_c4 (thenK (r03_Compare_p3 C R) (retK R))
theorem r03_Compare_p4_e (S : St) : r03_Compare_p4 C R S = Sx.ops C r03_Compare_r1 (Sx.ops C r03_Compare_t1 (kq [2, 3] (r03_Compare_p3 C R))) S := rfl
def r03_Compare_p5 : St → Prop := X C r03_Compare_c2 (thenK (r03_Compare_p4 C R) (retK R))
theorem r03_Compare_p5_e (S : St) : r03_Compare_p5 C R S = Sx.ops C r03_Compare_r0 (kq [2, 3] (r03_Compare_p4 C R)) S := rfl
set_option maxRecDepth 100000 in
theorem r03_Compare_s (S : St) : X C r03_Compare_c1 (retK R) S = (r03_Compare_p5 C R) S := rfl
theorem r03_Compare_start {R : Value → Prop} {args : List Value} {w : World} : type_of% (enter (R := R) (args := args) (w := w) Try.func28 r03_Compare_ok) := enter Try.func28 r03_Compare_ok
theorem r03_Compare_E : type_of% @r03_Compare_r4.eq_1 ∧ type_of% @r03_Compare_p1_e ∧ type_of% @r03_Compare_r3.eq_1 ∧ type_of% @r03_Compare_p2_e ∧ type_of% @r03_Compare_r2.eq_1 ∧ type_of% @r03_Compare_p3_e ∧ type_of% @r03_Compare_r1.eq_1 ∧ type_of% @r03_Compare_t1.eq_1 ∧ type_of% @r03_Compare_p4_e ∧ type_of% @r03_Compare_r0.eq_1 ∧ type_of% @r03_Compare_p5_e ∧ type_of% @r03_Compare_s := ⟨@r03_Compare_r4.eq_1, @r03_Compare_p1_e, @r03_Compare_r3.eq_1, @r03_Compare_p2_e, @r03_Compare_r2.eq_1, @r03_Compare_p3_e, @r03_Compare_r1.eq_1, @r03_Compare_t1.eq_1, @r03_Compare_p4_e, @r03_Compare_r0.eq_1, @r03_Compare_p5_e, @r03_Compare_s⟩
def r03_Floor_r0 : List G := [(some 1, none, (.box true 10 (.tmp 0))), (some 2, none, (.new zW))]
def r03_Floor_c2 : MC := (.reg r03_Floor_r0 (some [1, 2]))
def r03_Floor_r1 : List G := [(some 6, none, (.ld true 10 (.tmp 1))), (some 7, none, (.call false 65 [(.tmp 6)])), (none, none, (.st true 10 (.tmp 1) (.tmp 7)))]
def r03_Floor_c4 : MC := (.reg r03_Floor_r1 (some [1, 2]))
def r03_Floor_r2 : List G := [(some 9, none, (.fa 0 (.tmp 1))), (some 10, none, (.ld true 5 (.tmp 9))), (some 11, none, (.fa 5 (.tmp 1))), (some 12, none, (.ld true 5 (.tmp 11))), (some 13, none, (.call false 46 [(.tmp 10), (.tmp 12)])), (some 8, none, (.mv (.tmp 13))), (some 14, none, (.ex (.tmp 8) 0)), (some 15, none, (.ex (.tmp 8) 1)), (some 16, none, (.ex (.tmp 8) 2)), (some 3, none, (.new zW)), (some 4, none, (.new zW)), (none, none, (.st true 5 (.tmp 3) (.tmp 14))), (none, none, (.st true 5 (.tmp 4) (.tmp 15))), (some 5, none, (.mv (.tmp 16)))]
def r03_Floor_c6 : MC := (.reg r03_Floor_r2 (some [2, 3]))
def r03_Floor_r3 : List G := [(some 17, none, (.ld true 5 (.tmp 3))), (none, none, (.st true 5 (.tmp 2) (.tmp 17)))]
def r03_Floor_c8 : MC := (.reg r03_Floor_r3 (some [2]))
def r03_Floor_c7 : MC := (.seq r03_Floor_c8 .ret)
def r03_Floor_c5 : MC := (.seq r03_Floor_c6 r03_Floor_c7)
def r03_Floor_c3 : MC := (.seq r03_Floor_c4 r03_Floor_c5)
def r03_Floor_c1 : MC := (.seq r03_Floor_c2 r03_Floor_c3)
def r03_Floor_ann : Ann := [(0, (some [1, 2], 0, [], [], [])), (1, (some [1, 2], 0, [], [], [])), (2, (some [2, 3], 0, [], [], [])), (3, (some [2], 0, [], [], []))]
theorem r03_Floor_ok : compF Try.prog Try.f74 r03_Floor_ann = some (18, r03_Floor_c1, [(2, some (true, 5))]) := by kernel_rfl
def r03_Floor_p1 : St → Prop := X C r03_Floor_c8 (thenK R (retK R))
theorem r03_Floor_p1_e (S : St) : r03_Floor_p1 C R S = Sx.ops C r03_Floor_r3 (kq [2] R) S := rfl
def r03_Floor_p2 : St → Prop := X C r03_Floor_c6 (thenK (r03_Floor_p1 C R) (retK R))
theorem r03_Floor_p2_e (S : St) : r03_Floor_p2 C R S = Sx.ops C r03_Floor_r2 (kq [2, 3] (r03_Floor_p1 C R)) S := rfl
def r03_Floor_p3 : St → Prop := X C r03_Floor_c4 (thenK (r03_Floor_p2 C R) (retK R))
theorem r03_Floor_p3_e (S : St) : r03_Floor_p3 C R S = Sx.ops C r03_Floor_r1 (kq [1, 2] (r03_Floor_p2 C R)) S := rfl
def r03_Floor_p4 : St → Prop := X C r03_Floor_c2 (thenK (r03_Floor_p3 C R) (retK R))
theorem r03_Floor_p4_e (S : St) : r03_Floor_p4 C R S = Sx.ops C r03_Floor_r0 (kq [1, 2] (r03_Floor_p3 C R)) S := rfl
set_option maxRecDepth 100000 in
theorem r03_Floor_s (S : St) : X C r03_Floor_c1 (retK R) S = (r03_Floor_p4 C R) S := rfl
theorem r03_Floor_start {R : Value → Prop} {args : List Value} {w : World} : type_of% (enter (R := R) (args := args) (w := w) Try.func74 r03_Floor_ok) := enter Try.func74 r03_Floor_ok
theorem r03_Floor_E : type_of% @r03_Floor_r3.eq_1 ∧ type_of% @r03_Floor_p1_e ∧ type_of% @r03_Floor_r2.eq_1 ∧ type_of% @r03_Floor_p2_e ∧ type_of% @r03_Floor_r1.eq_1 ∧ type_of% @r03_Floor_p3_e ∧ type_of% @r03_Floor_r0.eq_1 ∧ type_of% @r03_Floor_p4_e ∧ type_of% @r03_Floor_s := ⟨@r03_Floor_r3.eq_1, @r03_Floor_p1_e, @r03_Floor_r2.eq_1, @r03_Floor_p2_e, @r03_Floor_r1.eq_1, @r03_Floor_p3_e, @r03_Floor_r0.eq_1, @r03_Floor_p4_e, @r03_Floor_s⟩
def r03_Make_r0 : List G := [(some 2, none, (.box true 5 (.tmp 0))), (some 3, none, (.box true 5 (.tmp 1))), (some 4, none, (.new zR)), (some 5, none, (.mv (.const (.bool false))))]
def r03_Make_c2 : MC := (.reg r03_Make_r0 (some [2, 3, 4]))
def r03_Make_r1 : List G := [(some 14, none, (.ld true 5 (.tmp 2))), (some 15, none, (.call false 57 [(.tmp 14)])), (some 16, none, (.un .not (.tmp 15))), (some 17, none, (.mv (.tmp 16))), (some 18, some (17, false), (.ld true 5 (.tmp 3))), (some 19, some (17, false), (.call false 57 [(.tmp 18)])), (some 20, some (17, false), (.un .not (.tmp 19))), (some 21, none, (.pick (.tmp 17) (.const (.bool true)) (.tmp 20))), (some 22, none, (.mv (.tmp 21))), (some 23, some (22, false), (.ld true 5 (.tmp 3))), (some 24, some (22, false), (.call false 47 [(.tmp 23)])), (some 25, some (22, false), (.bin .eql (.tmp 24) (.const (.int .i64 0)))), (some 26, none, (.pick (.tmp 22) (.const (.bool true)) (.tmp 25)))]
def r03_Make_c5 : MC := (.reg r03_Make_r1 (some [2, 3, 4, 26]))
def r03_Make_r2 : List G := [(some 27, none, (.bd zR [])), (none, none, (.st true 10 (.tmp 4) (.tmp 27))), (some 5, none, (.mv (.const (.bool false))))]
def r03_Make_c8 : MC := (.reg r03_Make_r2 (some [4, 5]))
def r03_Make_c7 : MC := (.seq r03_Make_c8 .ret)
def r03_Make_c6 : MC := (.cond (.tmp 26) r03_Make_c7 .skip)
def r03_Make_c4 : MC := (.seq r03_Make_c5 r03_Make_c6)
def r03_Make_r3 : List G := [(some 28, none, (.ld true 5 (.tmp 2))), (some 29, none, (.call true 59 [(.tmp 28)])), (some 30, none, (.ld true 5 (.tmp 3))), (some 31, none, (.call true 59 [(.tmp 30)])), (some 32, none, (.call true 58 [(.tmp 29), (.tmp 31)]))]
def r03_Make_t3 : List G := [(some 6, none, (.new zW)), (none, none, (.st true 5 (.tmp 6) (.tmp 32)))]
def r03_Make_c10 : MC := (.dreg r03_Make_r3 r03_Make_t3 (some [2, 3, 4, 6]))
def r03_Make_r4 : List G := [(some 34, none, (.ld true 5 (.tmp 2))), (some 35, none, (.call true 59 [(.tmp 34)])), (some 36, none, (.ld true 5 (.tmp 6))), (some 37, none, (.call true 46 [(.tmp 35), (.tmp 36)])), (some 33, none, (.mv (.tmp 37))), (some 38, none, (.ex (.tmp 33) 0)), (some 39, none, (.ex (.tmp 33) 1)), (some 40, none, (.ex (.tmp 33) 2))]
def r03_Make_t4 : List G := [(some 7, none, (.new zW)), (some 8, none, (.new zW)), (none, none, (.st true 5 (.tmp 7) (.tmp 38))), (none, none, (.st true 5 (.tmp 8) (.tmp 39))), (some 9, none, (.mv (.tmp 40)))]
def r03_Make_c12 : MC := (.dreg r03_Make_r4 r03_Make_t4 (some [2, 3, 4, 6, 7]))
def r03_Make_r5 : List G := [(some 42, none, (.ld true 5 (.tmp 3))), (some 43, none, (.call true 59 [(.tmp 42)])), (some 44, none, (.ld true 5 (.tmp 6))), (some 45, none, (.call true 46 [(.tmp 43), (.tmp 44)])), (some 41, none, (.mv (.tmp 45))), (some 46, none, (.ex (.tmp 41) 0)), (some 47, none, (.ex (.tmp 41) 1)), (some 48, none, (.ex (.tmp 41) 2))]
def r03_Make_t5 : List G := [(some 10, none, (.new zW)), (some 11, none, (.new zW)), (none, none, (.st true 5 (.tmp 10) (.tmp 46))), (none, none, (.st true 5 (.tmp 11) (.tmp 47))), (some 12, none, (.mv (.tmp 48)))]
def r03_Make_c14 : MC := (.dreg r03_Make_r5 r03_Make_t5 (some [2, 3, 4, 7, 10]))
def r03_Make_r6 : List G := [(some 49, none, (.fa 0 (.tmp 2))), (some 50, none, (.ld false 1 (.tmp 49))), (some 51, none, (.fa 0 (.tmp 3))), (some 52, none, (.ld false 1 (.tmp 51))), (some 53, none, (.bq true (.tmp 50) (.tmp 52)))]
def r03_Make_c17 : MC := (.reg r03_Make_r6 (some [4, 7, 10, 53]))
def r03_Make_r7 : List G := [(some 54, none, (.ld true 5 (.tmp 7))), (some 55, none, (.call false 48 [(.tmp 54)])), (none, none, (.st true 5 (.tmp 7) (.tmp 55)))]
def r03_Make_c19 : MC := (.reg r03_Make_r7 (some [4, 7, 10]))
def r03_Make_c18 : MC := (.cond (.tmp 53) r03_Make_c19 .skip)
def r03_Make_c16 : MC := (.seq r03_Make_c17 r03_Make_c18)
def r03_Make_r8 : List G := [(some 56, none, (.ld true 5 (.tmp 7))), (some 57, none, (.ld true 5 (.tmp 10))), (some 58, none, (.bd zR [(0, 5, (.tmp 56)), (5, 5, (.tmp 57))])), (some 13, none, (.new zR)), (none, none, (.st true 10 (.tmp 13) (.tmp 58)))]
def r03_Make_c21 : MC := (.reg r03_Make_r8 (some [4, 13]))
def r03_Make_r9 : List G := [(some 59, none, (.ld true 10 (.tmp 13))), (some 60, none, (.call false 42 [(.tmp 59)])), (some 61, none, (.un .not (.tmp 60)))]
def r03_Make_c24 : MC := (.reg r03_Make_r9 (some [4, 13, 61]))
def r03_Make_r10 : List G := [(some 62, none, (.bd zR [])), (none, none, (.st true 10 (.tmp 4) (.tmp 62))), (some 5, none, (.mv (.const (.bool false))))]
def r03_Make_c27 : MC := (.reg r03_Make_r10 (some [4, 5]))
def r03_Make_c26 : MC := (.seq r03_Make_c27 .ret)
def r03_Make_c25 : MC := (.cond (.tmp 61) r03_Make_c26 .skip)
def r03_Make_c23 : MC := (.seq r03_Make_c24 r03_Make_c25)
def r03_Make_r11 : List G := [(some 63, none, (.ld true 10 (.tmp 13))), (none, none, (.st true 10 (.tmp 4) (.tmp 63))), (some 5, none, (.mv (.const (.bool true))))]
def r03_Make_c29 : MC := (.reg r03_Make_r11 (some [4, 5]))
def r03_Make_c28 : MC := (.seq r03_Make_c29 .ret)
def r03_Make_c22 : MC := (.seq r03_Make_c23 r03_Make_c28)
def r03_Make_c20 : MC := (.seq r03_Make_c21 r03_Make_c22)
def r03_Make_c15 : MC := (.seq r03_Make_c16 r03_Make_c20)
def r03_Make_c13 : MC := (.seq r03_Make_c14 r03_Make_c15)
def r03_Make_c11 : MC := (.seq r03_Make_c12 r03_Make_c13)
def r03_Make_c9 : MC := (.seq r03_Make_c10 r03_Make_c11)
def r03_Make_c3 : MC := (.seq r03_Make_c4 r03_Make_c9)
def r03_Make_c1 : MC := (.seq r03_Make_c2 r03_Make_c3)
def r03_Make_ann : Ann := [(0, (some [2, 3, 4], 0, [], [], [])), (1, (some [2, 3, 4, 26], 0, [], [], [])), (2, (some [4, 5], 0, [], [], [])), (3, (some [2, 3, 4, 6], 6, [], [(0, 0), (1, 0), (2, 0), (3, 0), (4, 0)], [5])), (4, (some [2, 3, 4, 6, 7], 10, [6, 7], [(0, 0), (1, 0), (2, 0), (3, 0), (4, 0), (5, 0), (6, 2), (7, 2)], [8, 9])), (5, (some [2, 3, 4, 7, 10], 10, [6, 7], [(0, 0), (1, 0), (2, 0), (3, 0), (4, 0), (5, 0), (6, 2), (7, 2)], [8, 9])), (6, (some [4, 7, 10, 53], 0, [], [], [])), (7, (some [4, 7, 10], 0, [], [], [])), (8, (some [4, 13], 0, [], [], [])), (9, (some [4, 13, 61], 0, [], [], [])), (10, (some [4, 5], 0, [], [], [])), (11, (some [4, 5], 0, [], [], []))]
theorem r03_Make_ok : compF Try.prog Try.f20 r03_Make_ann = some (64, r03_Make_c1, [(4, some (true, 10)), (5, none)]) := by kernel_rfl
def r03_Make_p1 : St → Prop := X C r03_Make_c29 (thenK R (retK R))
theorem r03_Make_p1_e (S : St) : r03_Make_p1 C R S = Sx.ops C r03_Make_r11 (kq [4, 5] R) S := rfl
def r03_Make_p3 : St → Prop := X C r03_Make_c27 (thenK R (thenK (r03_Make_p1 C R) (retK R)))
theorem r03_Make_p3_e (S : St) : r03_Make_p3 C R S = Sx.ops C r03_Make_r10 (kq [4, 5] R) S := rfl
def r03_Make_p2 : St → Prop := X C r03_Make_c25 (thenK (r03_Make_p1 C R) (retK R))
theorem r03_Make_p2_e (S : St) : r03_Make_p2 C R S = condX (S.ev (.tmp 61)) (r03_Make_p3 C R) (r03_Make_p1 C R) S := rfl
def r03_Make_p4 : St → Prop := X C r03_Make_c24 (thenK (r03_Make_p2 C R) (thenK (r03_Make_p1 C R) (retK R)))
theorem r03_Make_p4_e (S : St) : r03_Make_p4 C R S = Sx.ops C r03_Make_r9 (kq [4, 13, 61] (r03_Make_p2 C R)) S := rfl
def r03_Make_p5 : St → Prop := X C r03_Make_c21 (thenK (r03_Make_p4 C R) (retK R))
theorem r03_Make_p5_e (S : St) : r03_Make_p5 C R S = Sx.ops C r03_Make_r8 (kq [4, 13] (r03_Make_p4 C R)) S := rfl
def r03_Make_p7 : St → Prop := X C r03_Make_c19 (thenK (r03_Make_p5 C R) (retK R))
theorem r03_Make_p7_e (S : St) : r03_Make_p7 C R S = Sx.ops C r03_Make_r7 (kq [4, 7, 10] (r03_Make_p5 C R)) S := rfl
def r03_Make_p6 : St → Prop := X C r03_Make_c18 (thenK (r03_Make_p5 C R) (retK R))
theorem r03_Make_p6_e (S : St) : r03_Make_p6 C R S = condX (S.ev (.tmp 53)) (r03_Make_p7 C R) (r03_Make_p5 C R) S := rfl
def r03_Make_p8 : St → Prop := X C r03_Make_c17 (thenK (r03_Make_p6 C R) (thenK (r03_Make_p5 C R) (retK R)))
theorem r03_Make_p8_e (S : St) : r03_Make_p8 C R S = Sx.ops C r03_Make_r6 (kq [4, 7, 10, 53] (r03_Make_p6 C R)) S := rfl
def r03_Make_p9 : St → Prop := X C r03_Make_c14 (thenK (r03_Make_p8 C R) (retK R))
theorem r03_Make_p9_e (S : St) : r03_Make_p9 C R S = Sx.ops C r03_Make_r5 (Sx.ops C r03_Make_t5 (kq [2, 3, 4, 7, 10] (r03_Make_p8 C R))) S := rfl
def r03_Make_p10 : St → Prop := X C r03_Make_c12 (thenK (r03_Make_p9 C R) (retK R))
theorem r03_Make_p10_e (S : St) : r03_Make_p10 C R S = Sx.ops C r03_Make_r4 (Sx.ops C r03_Make_t4 (kq [2, 3, 4, 6, 7] (r03_Make_p9 C R))) S := rfl
def r03_Make_p11 : St → Prop := X C r03_Make_c10 (thenK (r03_Make_p10 C R) (retK R))
theorem r03_Make_p11_e (S : St) : r03_Make_p11 C R S = Sx.ops C r03_Make_r3 (Sx.ops C r03_Make_t3 (kq [2, 3, 4, 6] (r03_Make_p10 C R))) S := rfl
def r03_Make_p13 : St → Prop := X C r03_Make_c8 (thenK R (thenK (r03_Make_p11 C R) (retK R)))
theorem r03_Make_p13_e (S : St) : r03_Make_p13 C R S = Sx.ops C r03_Make_r2 (kq [4, 5] R) S := rfl
def r03_Make_p12 : St → Prop := X C r03_Make_c6 (thenK (r03_Make_p11 C R) (retK R))
theorem r03_Make_p12_e (S : St) : r03_Make_p12 C R S = condX (S.ev (.tmp 26)) (r03_Make_p13 C R) (r03_Make_p11 C R) S := rfl
def r03_Make_p14 : St → Prop := X C r03_Make_c5 (thenK (r03_Make_p12 C R) (thenK (r03_Make_p11 C R) (retK R)))
theorem r03_Make_p14_e (S : St) : r03_Make_p14 C R S = Sx.ops C r03_Make_r1 (kq [2, 3, 4, 26] (r03_Make_p12 C R)) S := rfl
def r03_Make_p15 : St → Prop := X C r03_Make_c2 (thenK (r03_Make_p14 C R) (retK R))
theorem r03_Make_p15_e (S : St) : r03_Make_p15 C R S = Sx.ops C r03_Make_r0 (kq [2, 3, 4] (r03_Make_p14 C R)) S := rfl
set_option maxRecDepth 100000 in
theorem r03_Make_s (S : St) : X C r03_Make_c1 (retK R) S = (r03_Make_p15 C R) S := rfl
theorem r03_Make_start {R : Value → Prop} {args : List Value} {w : World} : type_of% (enter (R := R) (args := args) (w := w) Try.func20 r03_Make_ok) := enter Try.func20 r03_Make_ok
theorem r03_Make_E : type_of% @r03_Make_r11.eq_1 ∧ type_of% @r03_Make_p1_e ∧ type_of% @r03_Make_r10.eq_1 ∧ type_of% @r03_Make_p3_e ∧ type_of% @r03_Make_p2_e ∧ type_of% @r03_Make_r9.eq_1 ∧ type_of% @r03_Make_p4_e ∧ type_of% @r03_Make_r8.eq_1 ∧ type_of% @r03_Make_p5_e ∧ type_of% @r03_Make_r7.eq_1 ∧ type_of% @r03_Make_p7_e ∧ type_of% @r03_Make_p6_e ∧ type_of% @r03_Make_r6.eq_1 ∧ type_of% @r03_Make_p8_e ∧ type_of% @r03_Make_r5.eq_1 ∧ type_of% @r03_Make_t5.eq_1 ∧ type_of% @r03_Make_p9_e ∧ type_of% @r03_Make_r4.eq_1 ∧ type_of% @r03_Make_t4.eq_1 ∧ type_of% @r03_Make_p10_e ∧ type_of% @r03_Make_r3.eq_1 ∧ type_of% @r03_Make_t3.eq_1 ∧ type_of% @r03_Make_p11_e ∧ type_of% @r03_Make_r2.eq_1 ∧ type_of% @r03_Make_p13_e ∧ type_of% @r03_Make_p12_e ∧ type_of% @r03_Make_r1.eq_1 ∧ type_of% @r03_Make_p14_e ∧ type_of% @r03_Make_r0.eq_1 ∧ type_of% @r03_Make_p15_e ∧ type_of% @r03_Make_s := ⟨@r03_Make_r11.eq_1, @r03_Make_p1_e, @r03_Make_r10.eq_1, @r03_Make_p3_e, @r03_Make_p2_e, @r03_Make_r9.eq_1, @r03_Make_p4_e, @r03_Make_r8.eq_1, @r03_Make_p5_e, @r03_Make_r7.eq_1, @r03_Make_p7_e, @r03_Make_p6_e, @r03_Make_r6.eq_1, @r03_Make_p8_e, @r03_Make_r5.eq_1, @r03_Make_t5.eq_1, @r03_Make_p9_e, @r03_Make_r4.eq_1, @r03_Make_t4.eq_1, @r03_Make_p10_e, @r03_Make_r3.eq_1, @r03_Make_t3.eq_1, @r03_Make_p11_e, @r03_Make_r2.eq_1, @r03_Make_p13_e, @r03_Make_p12_e, @r03_Make_r1.eq_1, @r03_Make_p14_e, @r03_Make_r0.eq_1, @r03_Make_p15_e, @r03_Make_s⟩
def r03_Of_r0 : List G := [(some 2, none, (.new zR))]
def r03_Of_c2 : MC := (.reg r03_Of_r0 (some [0, 2]))
def r03_Of_r1 : List G := [(some 3, none, (.mv (.tmp 0))), (some 4, none, (.call false 16 [(.tmp 3)])), (some 5, none, (.call false 77 [])), (some 6, none, (.bd zR [(0, 5, (.tmp 4)), (5, 5, (.tmp 5))])), (none, none, (.st true 10 (.tmp 2) (.tmp 6)))]
def r03_Of_c4 : MC := (.reg r03_Of_r1 (some [2]))
def r03_Of_c3 : MC := (.seq r03_Of_c4 .ret)
def r03_Of_c1 : MC := (.seq r03_Of_c2 r03_Of_c3)
def r03_Of_ann : Ann := [(0, (some [0, 2], 0, [], [], [])), (1, (some [2], 0, [], [], []))]
theorem r03_Of_ok : compF Try.prog Try.f37 r03_Of_ann = some (7, r03_Of_c1, [(2, some (true, 10))]) := by kernel_rfl
def r03_Of_p1 : St → Prop := X C r03_Of_c4 (thenK R (retK R))
theorem r03_Of_p1_e (S : St) : r03_Of_p1 C R S = Sx.ops C r03_Of_r1 (kq [2] R) S := rfl
def r03_Of_p2 : St → Prop := X C r03_Of_c2 (thenK (r03_Of_p1 C R) (retK R))
theorem r03_Of_p2_e (S : St) : r03_Of_p2 C R S = Sx.ops C r03_Of_r0 (kq [0, 2] (r03_Of_p1 C R)) S := rfl
set_option maxRecDepth 100000 in
theorem r03_Of_s (S : St) : X C r03_Of_c1 (retK R) S = (r03_Of_p2 C R) S := rfl
theorem r03_Of_start {R : Value → Prop} {args : List Value} {w : World} : type_of% (enter (R := R) (args := args) (w := w) Try.func37 r03_Of_ok) := enter Try.func37 r03_Of_ok
theorem r03_Of_E : type_of% @r03_Of_r1.eq_1 ∧ type_of% @r03_Of_p1_e ∧ type_of% @r03_Of_r0.eq_1 ∧ type_of% @r03_Of_p2_e ∧ type_of% @r03_Of_s := ⟨@r03_Of_r1.eq_1, @r03_Of_p1_e, @r03_Of_r0.eq_1, @r03_Of_p2_e, @r03_Of_s⟩
def r03_Valid_r0 : List G := [(some 1, none, (.box true 10 (.tmp 0))), (some 2, none, (.mv (.const (.bool false))))]
def r03_Valid_c2 : MC := (.reg r03_Valid_r0 (some [1]))
def r03_Valid_r1 : List G := [(some 3, none, (.fa 0 (.tmp 1))), (some 4, none, (.ld true 5 (.tmp 3))), (some 5, none, (.call false 57 [(.tmp 4)])), (some 6, none, (.un .not (.tmp 5))), (some 7, none, (.mv (.tmp 6))), (some 8, some (7, false), (.fa 5 (.tmp 1))), (some 9, some (7, false), (.ld true 5 (.tmp 8))), (some 10, some (7, false), (.call false 57 [(.tmp 9)])), (some 11, some (7, false), (.un .not (.tmp 10))), (some 12, none, (.pick (.tmp 7) (.const (.bool true)) (.tmp 11))), (some 13, none, (.mv (.tmp 12))), (some 14, some (13, false), (.fa 5 (.tmp 1))), (some 15, some (13, false), (.ld true 5 (.tmp 14))), (some 16, some (13, false), (.call false 47 [(.tmp 15)])), (some 17, some (13, false), (.bin .leq (.tmp 16) (.const (.int .i64 0)))), (some 18, none, (.pick (.tmp 13) (.const (.bool true)) (.tmp 17))), (some 19, none, (.mv (.tmp 18))), (some 20, some (19, false), (.fa 0 (.tmp 1))), (some 21, some (19, false), (.ld true 5 (.tmp 20))), (some 22, some (19, false), (.call false 82 [(.tmp 21)])), (some 23, some (19, false), (.un .not (.tmp 22))), (some 24, none, (.pick (.tmp 19) (.const (.bool true)) (.tmp 23))), (some 25, none, (.mv (.tmp 24))), (some 26, some (25, false), (.fa 5 (.tmp 1))), (some 27, some (25, false), (.ld true 5 (.tmp 26))), (some 28, some (25, false), (.call false 82 [(.tmp 27)])), (some 29, some (25, false), (.un .not (.tmp 28))), (some 30, none, (.pick (.tmp 25) (.const (.bool true)) (.tmp 29)))]
def r03_Valid_c5 : MC := (.reg r03_Valid_r1 (some [1, 30]))
def r03_Valid_r2 : List G := [(some 2, none, (.mv (.const (.bool false))))]
def r03_Valid_c8 : MC := (.reg r03_Valid_r2 (some [2]))
def r03_Valid_c7 : MC := (.seq r03_Valid_c8 .ret)
def r03_Valid_c6 : MC := (.cond (.tmp 30) r03_Valid_c7 .skip)
def r03_Valid_c4 : MC := (.seq r03_Valid_c5 r03_Valid_c6)
def r03_Valid_r3 : List G := [(some 31, none, (.fa 0 (.tmp 1))), (some 32, none, (.ld true 5 (.tmp 31))), (some 33, none, (.call true 59 [(.tmp 32)])), (some 34, none, (.fa 5 (.tmp 1))), (some 35, none, (.ld true 5 (.tmp 34))), (some 36, none, (.call true 58 [(.tmp 33), (.tmp 35)])), (some 37, none, (.call true 77 [])), (some 38, none, (.eqg false 25 (.tmp 36) (.tmp 37)))]
def r03_Valid_t3 : List G := [(some 2, none, (.mv (.tmp 38)))]
def r03_Valid_c10 : MC := (.dreg r03_Valid_r3 r03_Valid_t3 (some [2]))
def r03_Valid_c9 : MC := (.seq r03_Valid_c10 .ret)
def r03_Valid_c3 : MC := (.seq r03_Valid_c4 r03_Valid_c9)
def r03_Valid_c1 : MC := (.seq r03_Valid_c2 r03_Valid_c3)
def r03_Valid_ann : Ann := [(0, (some [1], 0, [], [], [])), (1, (some [1, 30], 0, [], [], [])), (2, (some [2], 0, [], [], [])), (3, (some [2], 8, [], [(0, 0), (1, 0), (2, 0), (3, 0), (4, 0), (5, 0), (6, 0), (7, 0)], []))]
theorem r03_Valid_ok : compF Try.prog Try.f42 r03_Valid_ann = some (39, r03_Valid_c1, [(2, none)]) := by kernel_rfl
def r03_Valid_p1 : St → Prop := X C r03_Valid_c10 (thenK R (retK R))
theorem r03_Valid_p1_e (S : St) : r03_Valid_p1 C R S = Sx.ops C r03_Valid_r3 (Sx.ops C r03_Valid_t3 (kq [2] R)) S := rfl
def r03_Valid_p3 : St → Prop := X C r03_Valid_c8 (thenK R (thenK (r03_Valid_p1 C R) (retK R)))
theorem r03_Valid_p3_e (S : St) : r03_Valid_p3 C R S = Sx.ops C r03_Valid_r2 (kq [2] R) S := rfl
def r03_Valid_p2 : St → Prop := X C r03_Valid_c6 (thenK (r03_Valid_p1 C R) (retK R))
theorem r03_Valid_p2_e (S : St) : r03_Valid_p2 C R S = condX (S.ev (.tmp 30)) (r03_Valid_p3 C R) (r03_Valid_p1 C R) S := rfl
def r03_Valid_p4 : St → Prop := X C r03_Valid_c5 (thenK (r03_Valid_p2 C R) (thenK (r03_Valid_p1 C R) (retK R)))
theorem r03_Valid_p4_e (S : St) : r03_Valid_p4 C R S = Sx.ops C r03_Valid_r1 (kq [1, 30] (r03_Valid_p2 C R)) S := rfl
def r03_Valid_p5 : St → Prop := X C r03_Valid_c2 (thenK (r03_Valid_p4 C R) (retK R))
theorem r03_Valid_p5_e (S : St) : r03_Valid_p5 C R S = Sx.ops C r03_Valid_r0 (kq [1] (r03_Valid_p4 C R)) S := rfl
set_option maxRecDepth 100000 in
theorem r03_Valid_s (S : St) : X C r03_Valid_c1 (retK R) S = (r03_Valid_p5 C R) S := rfl
theorem r03_Valid_start {R : Value → Prop} {args : List Value} {w : World} : type_of% (enter (R := R) (args := args) (w := w) Try.func42 r03_Valid_ok) := enter Try.func42 r03_Valid_ok
theorem r03_Valid_E : type_of% @r03_Valid_r3.eq_1 ∧ type_of% @r03_Valid_t3.eq_1 ∧ type_of% @r03_Valid_p1_e ∧ type_of% @r03_Valid_r2.eq_1 ∧ type_of% @r03_Valid_p3_e ∧ type_of% @r03_Valid_p2_e ∧ type_of% @r03_Valid_r1.eq_1 ∧ type_of% @r03_Valid_p4_e ∧ type_of% @r03_Valid_r0.eq_1 ∧ type_of% @r03_Valid_p5_e ∧ type_of% @r03_Valid_s := ⟨@r03_Valid_r3.eq_1, @r03_Valid_t3.eq_1, @r03_Valid_p1_e, @r03_Valid_r2.eq_1, @r03_Valid_p3_e, @r03_Valid_p2_e, @r03_Valid_r1.eq_1, @r03_Valid_p4_e, @r03_Valid_r0.eq_1, @r03_Valid_p5_e, @r03_Valid_s⟩
def r03_abs_r0 : List G := [(some 1, none, (.box true 5 (.tmp 0))), (some 2, none, (.new zW))]
def r03_abs_c2 : MC := (.reg r03_abs_r0 (some [1, 2]))
def r03_abs_r1 : List G := [(some 3, none, (.fa 0 (.tmp 1))), (none, none, (.st false 1 (.tmp 3) (.const (.bool false))))]
def r03_abs_c4 : MC := (.reg r03_abs_r1 (some [1, 2]))
def r03_abs_r2 : List G := [(some 4, none, (.ld true 5 (.tmp 1))), (none, none, (.st true 5 (.tmp 2) (.tmp 4)))]
def r03_abs_c6 : MC := (.reg r03_abs_r2 (some [2]))
def r03_abs_c5 : MC := (.seq r03_abs_c6 .ret)
def r03_abs_c3 : MC := (.seq r03_abs_c4 r03_abs_c5)
def r03_abs_c1 : MC := (.seq r03_abs_c2 r03_abs_c3)
def r03_abs_ann : Ann := [(0, (some [1, 2], 0, [], [], [])), (1, (some [1, 2], 0, [], [], [])), (2, (some [2], 0, [], [], []))]
theorem r03_abs_ok : compF Try.prog Try.f59 r03_abs_ann = some (5, r03_abs_c1, [(2, some (true, 5))]) := by kernel_rfl
def r03_abs_p1 : St → Prop := X C r03_abs_c6 (thenK R (retK R))
theorem r03_abs_p1_e (S : St) : r03_abs_p1 C R S = Sx.ops C r03_abs_r2 (kq [2] R) S := rfl
def r03_abs_p2 : St → Prop := X C r03_abs_c4 (thenK (r03_abs_p1 C R) (retK R))
theorem r03_abs_p2_e (S : St) : r03_abs_p2 C R S = Sx.ops C r03_abs_r1 (kq [1, 2] (r03_abs_p1 C R)) S := rfl
def r03_abs_p3 : St → Prop := X C r03_abs_c2 (thenK (r03_abs_p2 C R) (retK R))
theorem r03_abs_p3_e (S : St) : r03_abs_p3 C R S = Sx.ops C r03_abs_r0 (kq [1, 2] (r03_abs_p2 C R)) S := rfl
set_option maxRecDepth 100000 in
theorem r03_abs_s (S : St) : X C r03_abs_c1 (retK R) S = (r03_abs_p3 C R) S := rfl
theorem r03_abs_start {R : Value → Prop} {args : List Value} {w : World} : type_of% (enter (R := R) (args := args) (w := w) Try.func59 r03_abs_ok) := enter Try.func59 r03_abs_ok
theorem r03_abs_E : type_of% @r03_abs_r2.eq_1 ∧ type_of% @r03_abs_p1_e ∧ type_of% @r03_abs_r1.eq_1 ∧ type_of% @r03_abs_p2_e ∧ type_of% @r03_abs_r0.eq_1 ∧ type_of% @r03_abs_p3_e ∧ type_of% @r03_abs_s := ⟨@r03_abs_r2.eq_1, @r03_abs_p1_e, @r03_abs_r1.eq_1, @r03_abs_p2_e, @r03_abs_r0.eq_1, @r03_abs_p3_e, @r03_abs_s⟩
def r03_clean_r0 : List G := [(some 1, none, (.box true 10 (.tmp 0))), (some 2, none, (.new zR))]
def r03_clean_c2 : MC := (.reg r03_clean_r0 (some [1, 2]))
def r03_clean_r1 : List G := [(some 3, none, (.ld true 10 (.tmp 1))), (some 4, none, (.call false 42 [(.tmp 3)])), (some 5, none, (.un .not (.tmp 4)))]
def r03_clean_c5 : MC := (.reg r03_clean_r1 (some [1, 2, 5]))
def r03_clean_r2 : List G := [(some 6, none, (.call false 77 [])), (some 7, none, (.bd zR [(5, 5, (.tmp 6))])), (none, none, (.st true 10 (.tmp 2) (.tmp 7)))]
def r03_clean_c8 : MC := (.reg r03_clean_r2 (some [2]))
def r03_clean_c7 : MC := (.seq r03_clean_c8 .ret)
def r03_clean_c6 : MC := (.cond (.tmp 5) r03_clean_c7 .skip)
def r03_clean_c4 : MC := (.seq r03_clean_c5 r03_clean_c6)
def r03_clean_r3 : List G := [(some 8, none, (.ld true 10 (.tmp 1))), (none, none, (.st true 10 (.tmp 2) (.tmp 8)))]
def r03_clean_c10 : MC := (.reg r03_clean_r3 (some [2]))
def r03_clean_c9 : MC := (.seq r03_clean_c10 .ret)
def r03_clean_c3 : MC := (.seq r03_clean_c4 r03_clean_c9)
def r03_clean_c1 : MC := (.seq r03_clean_c2 r03_clean_c3)
def r03_clean_ann : Ann := [(0, (some [1, 2], 0, [], [], [])), (1, (some [1, 2, 5], 0, [], [], [])), (2, (some [2], 0, [], [], [])), (3, (some [2], 0, [], [], []))]
theorem r03_clean_ok : compF Try.prog Try.f65 r03_clean_ann = some (9, r03_clean_c1, [(2, some (true, 10))]) := by kernel_rfl
def r03_clean_p1 : St → Prop := X C r03_clean_c10 (thenK R (retK R))
theorem r03_clean_p1_e (S : St) : r03_clean_p1 C R S = Sx.ops C r03_clean_r3 (kq [2] R) S := rfl
def r03_clean_p3 : St → Prop := X C r03_clean_c8 (thenK R (thenK (r03_clean_p1 C R) (retK R)))
theorem r03_clean_p3_e (S : St) : r03_clean_p3 C R S = Sx.ops C r03_clean_r2 (kq [2] R) S := rfl
def r03_clean_p2 : St → Prop := X C r03_clean_c6 (thenK (r03_clean_p1 C R) (retK R))
theorem r03_clean_p2_e (S : St) : r03_clean_p2 C R S = condX (S.ev (.tmp 5)) (r03_clean_p3 C R) (r03_clean_p1 C R) S := rfl
def r03_clean_p4 : St → Prop := X C r03_clean_c5 (thenK (r03_clean_p2 C R) (thenK (r03_clean_p1 C R) (retK R)))
theorem r03_clean_p4_e (S : St) : r03_clean_p4 C R S = Sx.ops C r03_clean_r1 (kq [1, 2, 5] (r03_clean_p2 C R)) S := rfl
def r03_clean_p5 : St → Prop := X C r03_clean_c2 (thenK (r03_clean_p4 C R) (retK R))
theorem r03_clean_p5_e (S : St) : r03_clean_p5 C R S = Sx.ops C r03_clean_r0 (kq [1, 2] (r03_clean_p4 C R)) S := rfl
set_option maxRecDepth 100000 in
theorem r03_clean_s (S : St) : X C r03_clean_c1 (retK R) S = (r03_clean_p5 C R) S := rfl
theorem r03_clean_start {R : Value → Prop} {args : List Value} {w : World} : type_of% (enter (R := R) (args := args) (w := w) Try.func65 r03_clean_ok) := enter Try.func65 r03_clean_ok
theorem r03_clean_E : type_of% @r03_clean_r3.eq_1 ∧ type_of% @r03_clean_p1_e ∧ type_of% @r03_clean_r2.eq_1 ∧ type_of% @r03_clean_p3_e ∧ type_of% @r03_clean_p2_e ∧ type_of% @r03_clean_r1.eq_1 ∧ type_of% @r03_clean_p4_e ∧ type_of% @r03_clean_r0.eq_1 ∧ type_of% @r03_clean_p5_e ∧ type_of% @r03_clean_s := ⟨@r03_clean_r3.eq_1, @r03_clean_p1_e, @r03_clean_r2.eq_1, @r03_clean_p3_e, @r03_clean_p2_e, @r03_clean_r1.eq_1, @r03_clean_p4_e, @r03_clean_r0.eq_1, @r03_clean_p5_e, @r03_clean_s⟩
def r03_gcd_r0 : List G := [(some 2, none, (.box true 5 (.tmp 0))), (some 3, none, (.box true 5 (.tmp 1))), (some 4, none, (.new zW))]
def r03_gcd_c2 : MC := (.reg r03_gcd_r0 (some [2, 3, 4]))
def r03_gcd_r1 : List G := [(some 12, none, (.ld true 5 (.tmp 3))), (some 13, none, (.call false 47 [(.tmp 12)])), (some 14, none, (.bin .neq (.tmp 13) (.const (.int .i64 0))))]
def r03_gcd_c8 : MC := (.reg r03_gcd_r1 (some [2, 3, 4, 14]))
def r03_gcd_c9 : MC := (.cond (.tmp 14) .skip (.exit 0))
def r03_gcd_c7 : MC := (.seq r03_gcd_c8 r03_gcd_c9)
def r03_gcd_r2 : List G := [(some 16, none, (.ld true 5 (.tmp 2))), (some 17, none, (.call false 89 [(.tmp 16)])), (some 15, none, (.mv (.tmp 17))), (some 18, none, (.ex (.tmp 15) 0)), (some 19, none, (.ex (.tmp 15) 1)), (some 5, none, (.mv (.tmp 18))), (some 6, none, (.mv (.tmp 19)))]
def r03_gcd_c12 : MC := (.reg r03_gcd_r2 (some [2, 3, 4, 5, 6]))
def r03_gcd_r3 : List G := [(some 21, none, (.ld true 5 (.tmp 3))), (some 22, none, (.call false 89 [(.tmp 21)])), (some 20, none, (.mv (.tmp 22))), (some 23, none, (.ex (.tmp 20) 0)), (some 24, none, (.ex (.tmp 20) 1)), (some 7, none, (.mv (.tmp 23))), (some 8, none, (.mv (.tmp 24)))]
def r03_gcd_c14 : MC := (.reg r03_gcd_r3 (some [2, 3, 4, 5, 6, 7, 8]))
def r03_gcd_r4 : List G := [(some 25, none, (.mv (.tmp 6))), (some 26, none, (.mv (.tmp 25))), (some 27, some (26, true), (.mv (.tmp 8))), (some 28, none, (.pick (.tmp 26) (.tmp 27) (.const (.bool false))))]
def r03_gcd_c17 : MC := (.reg r03_gcd_r4 (some [2, 3, 4, 5, 7, 28]))
def r03_gcd_r5 : List G := [(some 29, none, (.mv (.tmp 7))), (some 30, none, (.bin .neq (.tmp 29) (.const (.int .u64 0))))]
def r03_gcd_c24 : MC := (.reg r03_gcd_r5 (some [4, 5, 7, 30]))
def r03_gcd_c25 : MC := (.cond (.tmp 30) .skip (.exit 2))
def r03_gcd_c23 : MC := (.seq r03_gcd_c24 r03_gcd_c25)
def r03_gcd_r6 : List G := [(some 31, none, (.mv (.tmp 7))), (some 32, none, (.mv (.tmp 5))), (some 33, none, (.mv (.tmp 7))), (some 34, none, (.bin .rem (.tmp 32) (.tmp 33)))]
def r03_gcd_t6 : List G := [(some 5, none, (.mv (.tmp 31))), (some 7, none, (.mv (.tmp 34)))]
def r03_gcd_c27 : MC := (.dreg r03_gcd_r6 r03_gcd_t6 (some [4, 5, 7]))
def r03_gcd_c26 : MC := (.block 3 r03_gcd_c27)
def r03_gcd_c22 : MC := (.seq r03_gcd_c23 r03_gcd_c26)
def r03_gcd_c21 : MC := (.loop r03_gcd_c22)
def r03_gcd_c20 : MC := (.block 2 r03_gcd_c21)
def r03_gcd_r7 : List G := [(some 35, none, (.mv (.tmp 5))), (some 36, none, (.call false 31 [(.tmp 35)])), (none, none, (.st true 5 (.tmp 4) (.tmp 36)))]
def r03_gcd_c29 : MC := (.reg r03_gcd_r7 (some [4]))
def r03_gcd_c28 : MC := (.seq r03_gcd_c29 .ret)
def r03_gcd_c19 : MC := (.seq r03_gcd_c20 r03_gcd_c28)
def r03_gcd_c18 : MC := (.cond (.tmp 28) r03_gcd_c19 .skip)
def r03_gcd_c16 : MC := (.seq r03_gcd_c17 r03_gcd_c18)
def r03_gcd_r8 : List G := [(some 38, none, (.ld true 5 (.tmp 2))), (some 39, none, (.ld true 5 (.tmp 3))), (some 40, none, (.call false 46 [(.tmp 38), (.tmp 39)])), (some 37, none, (.mv (.tmp 40))), (some 41, none, (.ex (.tmp 37) 0)), (some 42, none, (.ex (.tmp 37) 1)), (some 43, none, (.ex (.tmp 37) 2)), (some 9, none, (.new zW)), (some 10, none, (.new zW)), (none, none, (.st true 5 (.tmp 9) (.tmp 41))), (none, none, (.st true 5 (.tmp 10) (.tmp 42))), (some 11, none, (.mv (.tmp 43)))]
def r03_gcd_c31 : MC := (.reg r03_gcd_r8 (some [2, 3, 4, 10]))
def r03_gcd_o9 : List (List G) := [[(some 44, none, (.ld true 5 (.tmp 3))), (some 45, none, (.ld true 5 (.tmp 10))), (none, none, (.st true 5 (.tmp 2) (.tmp 44))), (none, none, (.st true 5 (.tmp 3) (.tmp 45)))],
  [(some 44, none, (.ld true 5 (.tmp 3))), (none, none, (.st true 5 (.tmp 2) (.tmp 44))), (some 45, none, (.ld true 5 (.tmp 10))), (none, none, (.st true 5 (.tmp 3) (.tmp 45)))],
  [(some 45, none, (.ld true 5 (.tmp 10))), (some 44, none, (.ld true 5 (.tmp 3))), (none, none, (.st true 5 (.tmp 2) (.tmp 44))), (none, none, (.st true 5 (.tmp 3) (.tmp 45)))]]
def r03_gcd_c32 : MC := (.areg [] r03_gcd_o9 (some [2, 3, 4]))
def r03_gcd_c30 : MC := (.seq r03_gcd_c31 r03_gcd_c32)
def r03_gcd_c15 : MC := (.seq r03_gcd_c16 r03_gcd_c30)
def r03_gcd_c13 : MC := (.seq r03_gcd_c14 r03_gcd_c15)
def r03_gcd_c11 : MC := (.seq r03_gcd_c12 r03_gcd_c13)
def r03_gcd_c10 : MC := (.block 1 r03_gcd_c11)
def r03_gcd_c6 : MC := (.seq r03_gcd_c7 r03_gcd_c10)
def r03_gcd_c5 : MC := (.loop r03_gcd_c6)
def r03_gcd_c4 : MC := (.block 0 r03_gcd_c5)
def r03_gcd_r10 : List G := [(some 46, none, (.ld true 5 (.tmp 2))), (none, none, (.st true 5 (.tmp 4) (.tmp 46)))]
def r03_gcd_c34 : MC := (.reg r03_gcd_r10 (some [4]))
def r03_gcd_c33 : MC := (.seq r03_gcd_c34 .ret)
def r03_gcd_c3 : MC := (.seq r03_gcd_c4 r03_gcd_c33)
def r03_gcd_c1 : MC := (.seq r03_gcd_c2 r03_gcd_c3)
def r03_gcd_ann : Ann := [(0, (some [2, 3, 4], 0, [], [], [])), (1, (some [2, 3, 4, 14], 0, [], [], [])), (2, (some [2, 3, 4, 5, 6], 0, [], [], [])), (3, (some [2, 3, 4, 5, 6, 7, 8], 0, [], [], [])), (4, (some [2, 3, 4, 5, 7, 28], 0, [], [], [])), (5, (some [4, 5, 7, 30], 0, [], [], [])), (6, (some [4, 5, 7], 4, [2, 3], [(0, 0), (1, 0), (2, 2), (3, 2)], [])), (7, (some [4], 0, [], [], [])), (8, (some [2, 3, 4, 10], 0, [], [], [])), (9, (some [2, 3, 4], 99999, [], [], [])), (10, (some [4], 0, [], [], []))]
theorem r03_gcd_ok : compF Try.prog Try.f58 r03_gcd_ann = some (47, r03_gcd_c1, [(4, some (true, 5))]) := by kernel_rfl
def r03_gcd_p1 : St → Prop := X C r03_gcd_c34 (thenK R (retK R))
theorem r03_gcd_p1_e (S : St) : r03_gcd_p1 C R S = Sx.ops C r03_gcd_r10 (kq [4] R) S := rfl
def r03_gcd_k1 : Exit → St → Prop := (thenK L1 (blockK 0 (thenK (r03_gcd_p1 C R) (retK R))))
def r03_gcd_p3 : St → Prop := X C r03_gcd_c32 (blockK 1 (r03_gcd_k1 C R L1))
theorem r03_gcd_p3_e (S : St) : r03_gcd_p3 C R L1 S = areX C [] r03_gcd_o9 (kq [2, 3, 4] L1) S := rfl
def r03_gcd_p4 : St → Prop := X C r03_gcd_c31 (thenK (r03_gcd_p3 C R L1) (blockK 1 (r03_gcd_k1 C R L1)))
theorem r03_gcd_p4_e (S : St) : r03_gcd_p4 C R L1 S = Sx.ops C r03_gcd_r8 (kq [2, 3, 4, 10] (r03_gcd_p3 C R L1)) S := rfl
def r03_gcd_k2 : Exit → St → Prop := (thenK (r03_gcd_p4 C R L1) (blockK 1 (r03_gcd_k1 C R L1)))
def r03_gcd_p6 : St → Prop := X C r03_gcd_c29 (thenK R (r03_gcd_k2 C R L1))
theorem r03_gcd_p6_e (S : St) : r03_gcd_p6 C R L1 S = Sx.ops C r03_gcd_r7 (kq [4] R) S := rfl
def r03_gcd_k3 : Exit → St → Prop := (blockK 2 (thenK (r03_gcd_p6 C R L1) (r03_gcd_k2 C R L1)))
def r03_gcd_p8 : St → Prop := X C r03_gcd_c27 (blockK 3 (thenK L2 (r03_gcd_k3 C R L1)))
theorem r03_gcd_p8_e (S : St) : r03_gcd_p8 C R L1 L2 S = Sx.ops C r03_gcd_r6 (Sx.ops C r03_gcd_t6 (kq [4, 5, 7] L2)) S := rfl
def r03_gcd_k4 : Exit → St → Prop := (thenK (r03_gcd_p8 C R L1 L2) (thenK L2 (r03_gcd_k3 C R L1)))
def r03_gcd_p9 : St → Prop := X C r03_gcd_c25 (r03_gcd_k4 C R L1 L2)
theorem r03_gcd_p9_e (S : St) : r03_gcd_p9 C R L1 L2 S = condX (S.ev (.tmp 30)) (r03_gcd_p8 C R L1 L2) (r03_gcd_p6 C R L1) S := rfl
def r03_gcd_p10 : St → Prop := X C r03_gcd_c24 (thenK (r03_gcd_p9 C R L1 L2) (r03_gcd_k4 C R L1 L2))
theorem r03_gcd_p10_e (S : St) : r03_gcd_p10 C R L1 L2 S = Sx.ops C r03_gcd_r5 (kq [4, 5, 7, 30] (r03_gcd_p9 C R L1 L2)) S := rfl
def r03_gcd_p7 : St → Prop := X C r03_gcd_c21 (r03_gcd_k3 C R L1)
theorem r03_gcd_p7_l (S : St) : r03_gcd_p7 C R L1 S = LX C (fun L2 => (r03_gcd_p10 C R L1 L2)) S := rfl
def r03_gcd_p5 : St → Prop := X C r03_gcd_c18 (r03_gcd_k2 C R L1)
theorem r03_gcd_p5_e (S : St) : r03_gcd_p5 C R L1 S = condX (S.ev (.tmp 28)) (r03_gcd_p7 C R L1) (r03_gcd_p4 C R L1) S := rfl
def r03_gcd_p11 : St → Prop := X C r03_gcd_c17 (thenK (r03_gcd_p5 C R L1) (r03_gcd_k2 C R L1))
theorem r03_gcd_p11_e (S : St) : r03_gcd_p11 C R L1 S = Sx.ops C r03_gcd_r4 (kq [2, 3, 4, 5, 7, 28] (r03_gcd_p5 C R L1)) S := rfl
def r03_gcd_p12 : St → Prop := X C r03_gcd_c14 (thenK (r03_gcd_p11 C R L1) (blockK 1 (r03_gcd_k1 C R L1)))
theorem r03_gcd_p12_e (S : St) : r03_gcd_p12 C R L1 S = Sx.ops C r03_gcd_r3 (kq [2, 3, 4, 5, 6, 7, 8] (r03_gcd_p11 C R L1)) S := rfl
def r03_gcd_p13 : St → Prop := X C r03_gcd_c12 (thenK (r03_gcd_p12 C R L1) (blockK 1 (r03_gcd_k1 C R L1)))
theorem r03_gcd_p13_e (S : St) : r03_gcd_p13 C R L1 S = Sx.ops C r03_gcd_r2 (kq [2, 3, 4, 5, 6] (r03_gcd_p12 C R L1)) S := rfl
def r03_gcd_p14 : St → Prop := X C r03_gcd_c9 (thenK (r03_gcd_p13 C R L1) (r03_gcd_k1 C R L1))
theorem r03_gcd_p14_e (S : St) : r03_gcd_p14 C R L1 S = condX (S.ev (.tmp 14)) (r03_gcd_p13 C R L1) (r03_gcd_p1 C R) S := rfl
def r03_gcd_p15 : St → Prop := X C r03_gcd_c8 (thenK (r03_gcd_p14 C R L1) (thenK (r03_gcd_p13 C R L1) (r03_gcd_k1 C R L1)))
theorem r03_gcd_p15_e (S : St) : r03_gcd_p15 C R L1 S = Sx.ops C r03_gcd_r1 (kq [2, 3, 4, 14] (r03_gcd_p14 C R L1)) S := rfl
def r03_gcd_p2 : St → Prop := X C r03_gcd_c5 (blockK 0 (thenK (r03_gcd_p1 C R) (retK R)))
theorem r03_gcd_p2_l (S : St) : r03_gcd_p2 C R S = LX C (fun L1 => (r03_gcd_p15 C R L1)) S := rfl
def r03_gcd_p16 : St → Prop := X C r03_gcd_c2 (thenK (r03_gcd_p2 C R) (retK R))
theorem r03_gcd_p16_e (S : St) : r03_gcd_p16 C R S = Sx.ops C r03_gcd_r0 (kq [2, 3, 4] (r03_gcd_p2 C R)) S := rfl
set_option maxRecDepth 100000 in
theorem r03_gcd_s (S : St) : X C r03_gcd_c1 (retK R) S = (r03_gcd_p16 C R) S := rfl
theorem r03_gcd_start {R : Value → Prop} {args : List Value} {w : World} : type_of% (enter (R := R) (args := args) (w := w) Try.func58 r03_gcd_ok) := enter Try.func58 r03_gcd_ok
theorem r03_gcd_E : type_of% @r03_gcd_r10.eq_1 ∧ type_of% @r03_gcd_p1_e ∧ type_of% @r03_gcd_o9.eq_1 ∧ type_of% @r03_gcd_p3_e ∧ type_of% @r03_gcd_r8.eq_1 ∧ type_of% @r03_gcd_p4_e ∧ type_of% @r03_gcd_r7.eq_1 ∧ type_of% @r03_gcd_p6_e ∧ type_of% @r03_gcd_r6.eq_1 ∧ type_of% @r03_gcd_t6.eq_1 ∧ type_of% @r03_gcd_p8_e ∧ type_of% @r03_gcd_p9_e ∧ type_of% @r03_gcd_r5.eq_1 ∧ type_of% @r03_gcd_p10_e ∧ type_of% @r03_gcd_p5_e ∧ type_of% @r03_gcd_r4.eq_1 ∧ type_of% @r03_gcd_p11_e ∧ type_of% @r03_gcd_r3.eq_1 ∧ type_of% @r03_gcd_p12_e ∧ type_of% @r03_gcd_r2.eq_1 ∧ type_of% @r03_gcd_p13_e ∧ type_of% @r03_gcd_p14_e ∧ type_of% @r03_gcd_r1.eq_1 ∧ type_of% @r03_gcd_p15_e ∧ type_of% @r03_gcd_r0.eq_1 ∧ type_of% @r03_gcd_p16_e ∧ type_of% @r03_gcd_s := ⟨@r03_gcd_r10.eq_1, @r03_gcd_p1_e, @r03_gcd_o9.eq_1, @r03_gcd_p3_e, @r03_gcd_r8.eq_1, @r03_gcd_p4_e, @r03_gcd_r7.eq_1, @r03_gcd_p6_e, @r03_gcd_r6.eq_1, @r03_gcd_t6.eq_1, @r03_gcd_p8_e, @r03_gcd_p9_e, @r03_gcd_r5.eq_1, @r03_gcd_p10_e, @r03_gcd_p5_e, @r03_gcd_r4.eq_1, @r03_gcd_p11_e, @r03_gcd_r3.eq_1, @r03_gcd_p12_e, @r03_gcd_r2.eq_1, @r03_gcd_p13_e, @r03_gcd_p14_e, @r03_gcd_r1.eq_1, @r03_gcd_p15_e, @r03_gcd_r0.eq_1, @r03_gcd_p16_e, @r03_gcd_s⟩
def r03_one_r0 : List G := [(some 0, none, (.new zW))]
def r03_one_c2 : MC := (.reg r03_one_r0 (some [0]))
def r03_one_r1 : List G := [(some 1, none, (.call false 16 [(.const (.int .i64 1))])), (none, none, (.st true 5 (.tmp 0) (.tmp 1)))]
def r03_one_c4 : MC := (.reg r03_one_r1 (some [0]))
def r03_one_c3 : MC := (.seq r03_one_c4 .ret)
def r03_one_c1 : MC := (.seq r03_one_c2 r03_one_c3)
def r03_one_ann : Ann := [(0, (some [0], 0, [], [], [])), (1, (some [0], 0, [], [], []))]
theorem r03_one_ok : compF Try.prog Try.f77 r03_one_ann = some (2, r03_one_c1, [(0, some (true, 5))]) := by kernel_rfl
def r03_one_p1 : St → Prop := X C r03_one_c4 (thenK R (retK R))
theorem r03_one_p1_e (S : St) : r03_one_p1 C R S = Sx.ops C r03_one_r1 (kq [0] R) S := rfl
def r03_one_p2 : St → Prop := X C r03_one_c2 (thenK (r03_one_p1 C R) (retK R))
theorem r03_one_p2_e (S : St) : r03_one_p2 C R S = Sx.ops C r03_one_r0 (kq [0] (r03_one_p1 C R)) S := rfl
set_option maxRecDepth 100000 in
theorem r03_one_s (S : St) : X C r03_one_c1 (retK R) S = (r03_one_p2 C R) S := rfl
theorem r03_one_start {R : Value → Prop} {args : List Value} {w : World} : type_of% (enter (R := R) (args := args) (w := w) Try.func77 r03_one_ok) := enter Try.func77 r03_one_ok
theorem r03_one_E : type_of% @r03_one_r1.eq_1 ∧ type_of% @r03_one_p1_e ∧ type_of% @r03_one_r0.eq_1 ∧ type_of% @r03_one_p2_e ∧ type_of% @r03_one_s := ⟨@r03_one_r1.eq_1, @r03_one_p1_e, @r03_one_r0.eq_1, @r03_one_p2_e, @r03_one_s⟩
def r03_small_r0 : List G := [(some 1, none, (.box true 5 (.tmp 0))), (some 2, none, (.mv (.const (.bool false))))]
def r03_small_c2 : MC := (.reg r03_small_r0 (some [1]))
def r03_small_r1 : List G := [(some 3, none, (.fa 1 (.tmp 1))), (some 4, none, (.ia 4 1 (.tmp 3) (.const (.int .i64 3)))), (some 5, none, (.ld false 1 (.tmp 4))), (some 6, none, (.bin .eql (.tmp 5) (.const (.int .u64 0)))), (some 7, none, (.mv (.tmp 6))), (some 8, some (7, true), (.fa 1 (.tmp 1))), (some 9, some (7, true), (.ia 4 1 (.tmp 8) (.const (.int .i64 2)))), (some 10, some (7, true), (.ld false 1 (.tmp 9))), (some 11, some (7, true), (.bin .eql (.tmp 10) (.const (.int .u64 0)))), (some 12, none, (.pick (.tmp 7) (.tmp 11) (.const (.bool false)))), (some 13, none, (.mv (.tmp 12))), (some 14, some (13, true), (.fa 1 (.tmp 1))), (some 15, some (13, true), (.ia 4 1 (.tmp 14) (.const (.int .i64 1)))), (some 16, some (13, true), (.ld false 1 (.tmp 15))), (some 17, some (13, true), (.bin .lss (.tmp 16) (.const (.int .u64 9223372036854775808)))), (some 18, none, (.pick (.tmp 13) (.tmp 17) (.const (.bool false)))), (some 2, none, (.mv (.tmp 18)))]
def r03_small_c4 : MC := (.reg r03_small_r1 (some [2]))
def r03_small_c3 : MC := (.seq r03_small_c4 .ret)
def r03_small_c1 : MC := (.seq r03_small_c2 r03_small_c3)
def r03_small_ann : Ann := [(0, (some [1], 0, [], [], [])), (1, (some [2], 0, [], [], []))]
theorem r03_small_ok : compF Try.prog Try.f82 r03_small_ann = some (19, r03_small_c1, [(2, none)]) := by kernel_rfl
def r03_small_p1 : St → Prop := X C r03_small_c4 (thenK R (retK R))
theorem r03_small_p1_e (S : St) : r03_small_p1 C R S = Sx.ops C r03_small_r1 (kq [2] R) S := rfl
def r03_small_p2 : St → Prop := X C r03_small_c2 (thenK (r03_small_p1 C R) (retK R))
theorem r03_small_p2_e (S : St) : r03_small_p2 C R S = Sx.ops C r03_small_r0 (kq [1] (r03_small_p1 C R)) S := rfl
set_option maxRecDepth 100000 in
theorem r03_small_s (S : St) : X C r03_small_c1 (retK R) S = (r03_small_p2 C R) S := rfl
theorem r03_small_start {R : Value → Prop} {args : List Value} {w : World} : type_of% (enter (R := R) (args := args) (w := w) Try.func82 r03_small_ok) := enter Try.func82 r03_small_ok
theorem r03_small_E : type_of% @r03_small_r1.eq_1 ∧ type_of% @r03_small_p1_e ∧ type_of% @r03_small_r0.eq_1 ∧ type_of% @r03_small_p2_e ∧ type_of% @r03_small_s := ⟨@r03_small_r1.eq_1, @r03_small_p1_e, @r03_small_r0.eq_1, @r03_small_p2_e, @r03_small_s⟩
end Go.Proofs.Ytlanoclibdhpmaa
