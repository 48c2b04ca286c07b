/- Plain facts on the doubled area: every number on the way fits. No program in sight. -/
import Derived.Test.YthcboomdkpiflaaRows
import Derived.Test.YthcboomdkpiflaaWPlain
namespace Go.Proofs.Ythcboomdkpiflaa
set_option linter.unusedVariables false
set_option linter.unusedSimpArgs false

theorem fits_abs {z : Int} (h : z.natAbs < 115792089237316195423570985008687907853269984665640564039457584007913129639936) : Fits z := by
  refine (fits_lt z).2 ?_
  unfold ab
  split <;> omega
theorem abs_mul_le {x y : Int} {p q : Nat} (hx : x.natAbs ≤ p) (hy : y.natAbs ≤ q) : (x * y).natAbs ≤ p * q := by rw [Int.natAbs_mul]; exact Nat.mul_le_mul hx hy
theorem abs_sub_le {x y : Int} {p q : Nat} (hx : x.natAbs ≤ p) (hy : y.natAbs ≤ q) : (x - y).natAbs ≤ p + q := by omega
theorem abs_i64 {x : Int} (h : I64 x) : x.natAbs ≤ 9223372036854775808 := by obtain ⟨h1, h2⟩ := h; omega
/-- Numbers less than 2^128. -/
def Sm (z : Int) : Prop := z.natAbs < 340282366920938463463374607431768211456
/-- Numbers of samples. -/
def Cnt (m : Int) : Prop := 1 ≤ m ∧ m ≤ 1073741824
/-- The doubled area, with its sign. -/
def ar (t v bt bv times values m : Int) : Int := (bt - t) * (values - m * v) - (times - m * t) * (bv - v)
theorem abs_cnt {m : Int} (h : Cnt m) : m.natAbs ≤ 1073741824 := by obtain ⟨h1, h2⟩ := h; omega
theorem cnt_i64 {m : Int} (h : Cnt m) : I64 m := by obtain ⟨h1, h2⟩ := h; exact ⟨by omega, by omega⟩
theorem fits_i64 {x : Int} (h : I64 x) : Fits x := fits_abs (by have := abs_i64 h; omega)
theorem fits_cnt_mul {m t : Int} (hm : Cnt m) (ht : I64 t) : Fits (m * t) := fits_abs (by have := abs_mul_le (abs_cnt hm) (abs_i64 ht); omega)
theorem abs_rest {s m t : Int} (hs : Sm s) (hm : Cnt m) (ht : I64 t) : (s - m * t).natAbs ≤ 340282366930841983777657649630961205248 := by
  have := abs_sub_le (Nat.le_of_lt hs) (abs_mul_le (abs_cnt hm) (abs_i64 ht)); omega
theorem fits_rest {s m t : Int} (hs : Sm s) (hm : Cnt m) (ht : I64 t) : Fits (s - m * t) := fits_abs (by have := abs_rest hs hm ht; omega)
theorem abs_dif {x y : Int} (hx : I64 x) (hy : I64 y) : (x - y).natAbs ≤ 18446744073709551616 := by have := abs_sub_le (abs_i64 hx) (abs_i64 hy); omega
theorem fits_dif {x y : Int} (hx : I64 x) (hy : I64 y) : Fits (x - y) := fits_abs (by have := abs_dif hx hy; omega)
theorem fits_prod {x y s m t : Int} (hx : I64 x) (hy : I64 y) (hs : Sm s) (hm : Cnt m) (ht : I64 t) : Fits ((x - y) * (s - m * t)) := fits_abs (by have := abs_mul_le (abs_dif hx hy) (abs_rest hs hm ht); omega)
theorem fits_prod' {x y s m t : Int} (hx : I64 x) (hy : I64 y) (hs : Sm s) (hm : Cnt m) (ht : I64 t) : Fits ((s - m * t) * (x - y)) := by rw [Int.mul_comm]; exact fits_prod hx hy hs hm ht
theorem abs_ar {t v bt bv s u m : Int} (ht : I64 t) (hv : I64 v) (hbt : I64 bt) (hbv : I64 bv) (hs : Sm s) (hu : Sm u) (hm : Cnt m) : (ar t v bt bv s u m).natAbs ≤ 2 * (18446744073709551616 * 340282366930841983777657649630961205248) := by
  have h1 := abs_mul_le (abs_dif hbt ht) (abs_rest hu hm hv)
  have h2 := abs_mul_le (abs_rest hs hm ht) (abs_dif hbv hv)
  have := abs_sub_le h1 h2
  unfold ar
  omega
theorem fits_ar {t v bt bv s u m : Int} (ht : I64 t) (hv : I64 v) (hbt : I64 bt) (hbv : I64 bv) (hs : Sm s) (hu : Sm u) (hm : Cnt m) : Fits (ar t v bt bv s u m) := fits_abs (by have := abs_ar ht hv hbt hbv hs hu hm; omega)
theorem sm_wv {n : Bool} {a b : Int} (ha : U64 a) (hb : U64 b) : Sm (wv n a b 0 0) := by
  obtain ⟨a1, a2⟩ := ha; obtain ⟨b1, b2⟩ := hb
  unfold Sm wv MV
  cases n <;> simp <;> omega
theorem ab_ab (z : Int) : ab (ab z) = ab z := by unfold ab; split <;> (try split) <;> omega
theorem sg_ab (z : Int) : sg (ab z) = false := by unfold sg ab; split <;> (simp; omega)
/-- What Weighted returns. -/
def wgt (t v bt bv times values m : Int) (ok : Bool) : Int := if ok then ab (ar t v bt bv times values m) else 0
end Go.Proofs.Ythcboomdkpiflaa
