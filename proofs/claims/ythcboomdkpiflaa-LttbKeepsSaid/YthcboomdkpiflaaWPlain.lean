/- Integers in words of 64 bits: plain facts. -/
import Derived.Test.YthcboomdkpiflaaPlain
namespace Go.Proofs.Ythcboomdkpiflaa
open Go.RowKit
set_option linter.unusedVariables false
set_option linter.unusedSimpArgs false

def s64 (x y c : Int) : Int := (x + y + c) % 18446744073709551616
def c64 (x y c : Int) : Int := (x + y + c) / 18446744073709551616
def d64 (x y b : Int) : Int := (x - y - b) % 18446744073709551616
def b64 (x y b : Int) : Int := if x < y + b then 1 else 0
def Bit (c : Int) : Prop := 0 ≤ c ∧ c ≤ 1
theorem c64_bit {x y c : Int} (hx : U64 x) (hy : U64 y) (hc : Bit c) : Bit (c64 x y c) := by
  obtain ⟨x1, x2⟩ := hx; obtain ⟨y1, y2⟩ := hy; obtain ⟨c1, c2⟩ := hc
  unfold c64; exact ⟨by omega, by omega⟩
theorem b64_bit (x y b : Int) : Bit (b64 x y b) := by unfold b64; split <;> exact ⟨by decide, by decide⟩
theorem s64_in (x y c : Int) : U64 (s64 x y c) := ⟨by unfold s64; omega, by unfold s64; omega⟩
theorem d64_in (x y c : Int) : U64 (d64 x y c) := ⟨by unfold d64; omega, by unfold d64; omega⟩
theorem Bit.zero : Bit 0 := ⟨by decide, by decide⟩
theorem U64.zero : U64 0 := ⟨by decide, by decide⟩

/-- The words of an integer, the least significant one first, and the value of four words. -/
def lb0 (z : Int) : Int := z % 18446744073709551616
def up1 (z : Int) : Int := z / 18446744073709551616
def lb1 (z : Int) : Int := lb0 (up1 z)
def lb2 (z : Int) : Int := lb0 (up1 (up1 z))
def lb3 (z : Int) : Int := lb0 (up1 (up1 (up1 z)))
def up4 (z : Int) : Int := up1 (up1 (up1 (up1 z)))
def MV (a b c d : Int) : Int := a + 18446744073709551616 * (b + 18446744073709551616 * (c + 18446744073709551616 * d))
theorem lb0_in (z : Int) : U64 (lb0 z) := ⟨by unfold lb0; omega, by unfold lb0; omega⟩
theorem lb1_in (z : Int) : U64 (lb1 z) := lb0_in _
theorem lb2_in (z : Int) : U64 (lb2 z) := lb0_in _
theorem lb3_in (z : Int) : U64 (lb3 z) := lb0_in _
theorem lb0_add (t r : Int) : lb0 (t + 18446744073709551616 * r) = lb0 t := by unfold lb0; omega
theorem up1_add (t r : Int) : up1 (t + 18446744073709551616 * r) = up1 t + r := by unfold up1; omega
theorem lb0_id {x : Int} (h : U64 x) : lb0 x = x := by obtain ⟨h1, h2⟩ := h; unfold lb0; omega
theorem up1_id {x : Int} (h : U64 x) : up1 x = 0 := by obtain ⟨h1, h2⟩ := h; unfold up1; omega
theorem lb_up (z : Int) : lb0 z + 18446744073709551616 * up1 z = z := by unfold lb0 up1; omega
theorem lb0_mv {a : Int} (b c d : Int) (h : U64 a) : lb0 (MV a b c d) = a := by unfold MV; rw [lb0_add, lb0_id h]
theorem up1_mv {a : Int} (b c d : Int) (h : U64 a) : up1 (MV a b c d) = b + 18446744073709551616 * (c + 18446744073709551616 * d) := by unfold MV; rw [up1_add, up1_id h, Int.zero_add]
theorem lb1_mv {a b : Int} (c d : Int) (h : U64 a) (h1 : U64 b) : lb1 (MV a b c d) = b := by unfold lb1; rw [up1_mv _ _ _ h, lb0_add, lb0_id h1]
theorem up2_mv {a b : Int} (c d : Int) (h : U64 a) (h1 : U64 b) : up1 (up1 (MV a b c d)) = c + 18446744073709551616 * d := by rw [up1_mv _ _ _ h, up1_add, up1_id h1, Int.zero_add]
theorem lb2_mv {a b c : Int} (d : Int) (h : U64 a) (h1 : U64 b) (h2 : U64 c) : lb2 (MV a b c d) = c := by unfold lb2; rw [up2_mv _ _ h h1, lb0_add, lb0_id h2]
theorem up3_mv {a b c : Int} (d : Int) (h : U64 a) (h1 : U64 b) (h2 : U64 c) : up1 (up1 (up1 (MV a b c d))) = d := by rw [up2_mv _ _ h h1, up1_add, up1_id h2, Int.zero_add]
theorem lb3_mv {a b c d : Int} (h : U64 a) (h1 : U64 b) (h2 : U64 c) (h3 : U64 d) : lb3 (MV a b c d) = d := by unfold lb3; rw [up3_mv _ h h1 h2, lb0_id h3]
theorem up4_mv {a b c d : Int} (h : U64 a) (h1 : U64 b) (h2 : U64 c) (h3 : U64 d) : up4 (MV a b c d) = 0 := by unfold up4; rw [up3_mv _ h h1 h2, up1_id h3]
theorem mv_lb (z : Int) : MV (lb0 z) (lb1 z) (lb2 z) (up1 (up1 (up1 z))) = z := by
  unfold MV lb1 lb2
  rw [lb_up, lb_up, lb_up]
theorem mv_lb4 {z : Int} (h : up4 z = 0) : MV (lb0 z) (lb1 z) (lb2 z) (lb3 z) = z := by
  have e : lb3 z = up1 (up1 (up1 z)) := by
    have := lb_up (up1 (up1 (up1 z)))
    unfold up4 at h; unfold lb3; rw [h] at this; omega
  rw [e]; exact mv_lb z
theorem mv_nonneg {a b c d : Int} (h : U64 a) (h1 : U64 b) (h2 : U64 c) (h3 : U64 d) : 0 ≤ MV a b c d := by
  obtain ⟨x, _⟩ := h; obtain ⟨y, _⟩ := h1; obtain ⟨z, _⟩ := h2; obtain ⟨t, _⟩ := h3
  unfold MV
  have i1 : 0 ≤ c + 18446744073709551616 * d := by omega
  have i2 : 0 ≤ b + 18446744073709551616 * (c + 18446744073709551616 * d) := by generalize c + 18446744073709551616 * d = q at *; omega
  generalize b + 18446744073709551616 * (c + 18446744073709551616 * d) = q at *; omega
theorem up1_nonneg {z : Int} (h : 0 ≤ z) : 0 ≤ up1 z := by unfold up1; omega
theorem up4_lt {z : Int} (h : 0 ≤ z) : up4 z = 0 ↔ z < 115792089237316195423570985008687907853269984665640564039457584007913129639936 := by
  have e : ∀ x : Int, up1 x = x / 18446744073709551616 := fun _ => rfl
  have e4 : up4 z = z / 115792089237316195423570985008687907853269984665640564039457584007913129639936 := by
    unfold up4; rw [e, e, e, e]
    rw [Int.ediv_ediv_of_nonneg (by decide), Int.ediv_ediv_of_nonneg (by decide), Int.ediv_ediv_of_nonneg (by decide)]; rfl
  rw [e4]
  constructor
  · intro h0; omega
  · intro h0; omega

theorem s64_lb (x y c : Int) : s64 x y c = lb0 (x + y + c) := rfl
theorem c64_up (x y c : Int) : c64 x y c = up1 (x + y + c) := rfl
theorem d64_lb (x y c : Int) : d64 x y c = lb0 (x - y - c) := rfl
theorem b64_up {x y b : Int} (hx : U64 x) (hy : U64 y) (hb : Bit b) : b64 x y b = -up1 (x - y - b) := by
  obtain ⟨x1, x2⟩ := hx; obtain ⟨y1, y2⟩ := hy; obtain ⟨c1, c2⟩ := hb
  unfold b64 up1; split <;> omega

/-- The sum of two values, word by word. -/
theorem sum_words {a0 a1 a2 a3 b0 b1 b2 b3 : Int} :
    lb0 (MV a0 a1 a2 a3 + MV b0 b1 b2 b3) = s64 a0 b0 0 ∧ lb1 (MV a0 a1 a2 a3 + MV b0 b1 b2 b3) = s64 a1 b1 (c64 a0 b0 0) ∧ lb2 (MV a0 a1 a2 a3 + MV b0 b1 b2 b3) = s64 a2 b2 (c64 a1 b1 (c64 a0 b0 0)) ∧
    lb3 (MV a0 a1 a2 a3 + MV b0 b1 b2 b3) = s64 a3 b3 (c64 a2 b2 (c64 a1 b1 (c64 a0 b0 0))) ∧ up4 (MV a0 a1 a2 a3 + MV b0 b1 b2 b3) = c64 a3 b3 (c64 a2 b2 (c64 a1 b1 (c64 a0 b0 0))) := by
  have e0 : MV a0 a1 a2 a3 + MV b0 b1 b2 b3 = (a0 + b0 + 0) + 18446744073709551616 * ((a1 + b1) + 18446744073709551616 * ((a2 + b2) + 18446744073709551616 * (a3 + b3))) := by unfold MV; omega
  have u1 : up1 (MV a0 a1 a2 a3 + MV b0 b1 b2 b3) = (a1 + b1 + c64 a0 b0 0) + 18446744073709551616 * ((a2 + b2) + 18446744073709551616 * (a3 + b3)) := by rw [e0, up1_add, ← c64_up]; omega
  have u2 : up1 (up1 (MV a0 a1 a2 a3 + MV b0 b1 b2 b3)) = (a2 + b2 + c64 a1 b1 (c64 a0 b0 0)) + 18446744073709551616 * (a3 + b3) := by rw [u1, up1_add, ← c64_up]; omega
  have u3 : up1 (up1 (up1 (MV a0 a1 a2 a3 + MV b0 b1 b2 b3))) = a3 + b3 + c64 a2 b2 (c64 a1 b1 (c64 a0 b0 0)) := by rw [u2, up1_add, ← c64_up]; omega
  refine ⟨?_, ?_, ?_, ?_, ?_⟩
  · rw [e0, lb0_add]; rfl
  · unfold lb1; rw [u1, lb0_add]; rfl
  · unfold lb2; rw [u2, lb0_add]; rfl
  · unfold lb3; rw [u3]; rfl
  · unfold up4; rw [u3]; rfl
/-- The difference of two values, word by word. -/
theorem diff_words {a0 a1 a2 a3 b0 b1 b2 b3 : Int} (ha0 : U64 a0) (ha1 : U64 a1) (ha2 : U64 a2) (hb0 : U64 b0) (hb1 : U64 b1) (hb2 : U64 b2) :
    lb0 (MV a0 a1 a2 a3 - MV b0 b1 b2 b3) = d64 a0 b0 0 ∧ lb1 (MV a0 a1 a2 a3 - MV b0 b1 b2 b3) = d64 a1 b1 (b64 a0 b0 0) ∧ lb2 (MV a0 a1 a2 a3 - MV b0 b1 b2 b3) = d64 a2 b2 (b64 a1 b1 (b64 a0 b0 0)) ∧
    lb3 (MV a0 a1 a2 a3 - MV b0 b1 b2 b3) = d64 a3 b3 (b64 a2 b2 (b64 a1 b1 (b64 a0 b0 0))) := by
  have e0 : MV a0 a1 a2 a3 - MV b0 b1 b2 b3 = (a0 - b0 - 0) + 18446744073709551616 * ((a1 - b1) + 18446744073709551616 * ((a2 - b2) + 18446744073709551616 * (a3 - b3))) := by unfold MV; omega
  have f0 := b64_up ha0 hb0 Bit.zero
  have f1 := b64_up ha1 hb1 (b64_bit a0 b0 0)
  have f2 := b64_up ha2 hb2 (b64_bit a1 b1 (b64 a0 b0 0))
  have u1 : up1 (MV a0 a1 a2 a3 - MV b0 b1 b2 b3) = (a1 - b1 - b64 a0 b0 0) + 18446744073709551616 * ((a2 - b2) + 18446744073709551616 * (a3 - b3)) := by rw [e0, up1_add]; omega
  have u2 : up1 (up1 (MV a0 a1 a2 a3 - MV b0 b1 b2 b3)) = (a2 - b2 - b64 a1 b1 (b64 a0 b0 0)) + 18446744073709551616 * (a3 - b3) := by rw [u1, up1_add]; omega
  have u3 : up1 (up1 (up1 (MV a0 a1 a2 a3 - MV b0 b1 b2 b3))) = a3 - b3 - b64 a2 b2 (b64 a1 b1 (b64 a0 b0 0)) := by rw [u2, up1_add]; omega
  refine ⟨?_, ?_, ?_, ?_⟩
  · rw [e0, lb0_add]; rfl
  · unfold lb1; rw [u1, lb0_add]; rfl
  · unfold lb2; rw [u2, lb0_add]; rfl
  · unfold lb3; rw [u3]; rfl

/-! ### Numbers with a sign -/
def meq (a b c d a' b' c' d' : Int) : Bool := a == a' && (b == b' && (c == c' && d == d'))
def weq (n : Bool) (a b c d : Int) (n' : Bool) (a' b' c' d' : Int) : Bool := n == n' && meq a b c d a' b' c' d'
def mz (a b c d : Int) : Bool := meq a b c d 0 0 0 0
/-- The sign that counts: a negative 0 is 0. -/
def cn (n : Bool) (a b c d : Int) : Bool := n && !mz a b c d
def wv (n : Bool) (a b c d : Int) : Int := if n then -MV a b c d else MV a b c d
def sg (z : Int) : Bool := decide (z < 0)
def ab (z : Int) : Int := if z < 0 then -z else z
abbrev WV (n : Bool) (a b c d : Int) : Value := .agg #[.bool n, .int .u64 a, .int .u64 b, .int .u64 c, .int .u64 d]
abbrev MG (a b c d : Int) : Value := .agg #[.int .u64 a, .int .u64 b, .int .u64 c, .int .u64 d]
/-- The Wide of an integer. -/
abbrev WE (z : Int) : Value := WV (sg z) (lb0 (ab z)) (lb1 (ab z)) (lb2 (ab z)) (lb3 (ab z))
def Fits (z : Int) : Prop := up4 (ab z) = 0
theorem ab_nonneg (z : Int) : 0 ≤ ab z := by unfold ab; split <;> omega
theorem fits_lt (z : Int) : Fits z ↔ ab z < 115792089237316195423570985008687907853269984665640564039457584007913129639936 := up4_lt (ab_nonneg z)
theorem mz_iff {a b c d : Int} (h : U64 a) (h1 : U64 b) (h2 : U64 c) (h3 : U64 d) : mz a b c d = true ↔ MV a b c d = 0 := by
  unfold mz meq
  simp only [Bool.and_eq_true, beq_iff_eq]
  constructor
  · rintro ⟨rfl, rfl, rfl, rfl⟩; rfl
  · intro e
    have e0 := lb0_mv b c d h
    have e1 := lb1_mv c d h h1
    have e2 := lb2_mv d h h1 h2
    have e3 := lb3_mv h h1 h2 h3
    rw [e] at e0 e1 e2 e3
    exact ⟨e0.symm, e1.symm, e2.symm, e3.symm⟩
theorem ab_wv {n : Bool} {a b c d : Int} (h : U64 a) (h1 : U64 b) (h2 : U64 c) (h3 : U64 d) : ab (wv n a b c d) = MV a b c d := by
  have := mv_nonneg h h1 h2 h3
  cases n
  · show ab (MV a b c d) = _
    unfold ab; split <;> omega
  · show ab (-MV a b c d) = _
    unfold ab; split <;> omega
theorem sg_wv {n : Bool} {a b c d : Int} (h : U64 a) (h1 : U64 b) (h2 : U64 c) (h3 : U64 d) : sg (wv n a b c d) = cn n a b c d := by
  have h0 := mv_nonneg h h1 h2 h3
  unfold sg wv cn
  cases n
  · simp; omega
  · simp only [if_true, Bool.true_and]
    by_cases hz : MV a b c d = 0
    · rw [(mz_iff h h1 h2 h3).2 hz, hz]; rfl
    · have : mz a b c d = false := by
        cases e : mz a b c d
        · rfl
        · exact absurd ((mz_iff h h1 h2 h3).1 e) hz
      rw [this]; simp; omega
theorem fits_wv {n : Bool} {a b c d : Int} (h : U64 a) (h1 : U64 b) (h2 : U64 c) (h3 : U64 d) : Fits (wv n a b c d) := by
  unfold Fits; rw [ab_wv h h1 h2 h3]; exact up4_mv h h1 h2 h3
/-- A number with words is the Wide of its value. -/
theorem we_wv {n : Bool} {a b c d : Int} (h : U64 a) (h1 : U64 b) (h2 : U64 c) (h3 : U64 d) : WV (cn n a b c d) a b c d = WE (wv n a b c d) := by
  unfold WE
  rw [sg_wv h h1 h2 h3, ab_wv h h1 h2 h3, lb0_mv _ _ _ h, lb1_mv _ _ h h1, lb2_mv _ h h1 h2, lb3_mv h h1 h2 h3]
theorem wv_we {z : Int} (h : Fits z) : wv (sg z) (lb0 (ab z)) (lb1 (ab z)) (lb2 (ab z)) (lb3 (ab z)) = z := by
  unfold wv; rw [mv_lb4 h]
  unfold sg ab
  by_cases h0 : z < 0
  · simp [h0]
  · simp [h0]
theorem cn_we {z : Int} (h : Fits z) : cn (sg z) (lb0 (ab z)) (lb1 (ab z)) (lb2 (ab z)) (lb3 (ab z)) = sg z := by
  rw [← sg_wv (lb0_in _) (lb1_in _) (lb2_in _) (lb3_in _), wv_we h]
/-- The Wide of a number with a sign and words of an absolute value. -/
theorem we_signed {n : Bool} {m : Int} (h0 : 0 ≤ m) (h : up4 m = 0) : WV (cn n (lb0 m) (lb1 m) (lb2 m) (lb3 m)) (lb0 m) (lb1 m) (lb2 m) (lb3 m) = WE (if n then -m else m) := by
  rw [we_wv (lb0_in _) (lb1_in _) (lb2_in _) (lb3_in _)]
  unfold wv; rw [mv_lb4 h]
theorem we_zero : WE 0 = WV false 0 0 0 0 := rfl

theorem we_of_neg (v : Int) (hv : I64 v) (h : v < 0) : WE v = WV true (IntKind.u64.wrap (-IntKind.u64.wrap v)) 0 0 0 := by
  have h1 : sg v = true := dT h
  have h2 : ab v = -v := if_pos h
  have h3 : IntKind.u64.wrap (-IntKind.u64.wrap v) = -v := by rw [mag_neg v hv h]; unfold mag; rw [if_pos h]
  have h4 : U64 (-v) := ⟨by omega, by have := hv.1; omega⟩
  unfold WE
  rw [h1, h2, h3]
  unfold lb1 lb2 lb3
  rw [lb0_id h4, up1_id h4]; rfl
theorem we_of_pos (v : Int) (hv : I64 v) (h : ¬ v < 0) : WE v = WV false (IntKind.u64.wrap v) 0 0 0 := by
  have h1 : sg v = false := dF h
  have h2 : ab v = v := if_neg h
  have h4 : U64 v := ⟨by omega, by have := hv.2; omega⟩
  unfold WE
  rw [h1, h2, u64_wrap_id v h4]
  unfold lb1 lb2 lb3
  rw [lb0_id h4, up1_id h4]; rfl
theorem we_uns (v : Int) (h4 : U64 v) : WE v = WV false v 0 0 0 := by
  have h : ¬ v < 0 := by have := h4.1; omega
  have h1 : sg v = false := dF h
  have h2 : ab v = v := if_neg h
  unfold WE
  rw [h1, h2]
  unfold lb1 lb2 lb3
  rw [lb0_id h4, up1_id h4]; rfl
theorem cn_cn (n : Bool) (a b c d : Int) : cn (cn n a b c d) a b c d = cn n a b c d := by unfold cn; cases n <;> cases mz a b c d <;> rfl
theorem wv_not {n : Bool} {a b c d : Int} (h : U64 a) (h1 : U64 b) (h2 : U64 c) (h3 : U64 d) : wv (!cn n a b c d) a b c d = -wv n a b c d := by
  cases hz : mz a b c d
  · have : cn n a b c d = n := by unfold cn; rw [hz]; cases n <;> rfl
    rw [this]; unfold wv; cases n <;> simp
  · have e := (mz_iff h h1 h2 h3).1 hz
    unfold wv; rw [e]; cases n <;> cases cn _ a b c d <;> rfl
theorem we_neg {n : Bool} {a b c d : Int} (h : U64 a) (h1 : U64 b) (h2 : U64 c) (h3 : U64 d) : WE (-wv n a b c d) = WV (cn (!cn n a b c d) a b c d) a b c d := by
  rw [we_wv h h1 h2 h3, wv_not h h1 h2 h3]

/-! ### Results that may not fit -/
/-- The integer if it fits, and 0 otherwise. -/
def cl (z : Int) : Int := if up4 (ab z) = 0 then z else 0
def fb (z : Int) : Bool := up4 (ab z) == 0
theorem fb_iff (z : Int) : fb z = true ↔ Fits z := beq_iff_eq
theorem cl_fit {z : Int} (h : Fits z) : cl z = z := if_pos h
theorem fb_fit {z : Int} (h : Fits z) : fb z = true := (fb_iff z).2 h
theorem cl_not {z : Int} (h : ¬Fits z) : cl z = 0 := if_neg h
theorem fb_not {z : Int} (h : ¬Fits z) : fb z = false := by
  cases e : fb z
  · rfl
  · exact absurd ((fb_iff z).1 e) h
theorem fits_cl (z : Int) : Fits (cl z) := by
  by_cases h : Fits z
  · rw [cl_fit h]; exact h
  · rw [cl_not h]; rfl
theorem up4_le {x y : Int} (h0 : 0 ≤ x) (h : x ≤ y) (hy : up4 y = 0) : up4 x = 0 := by
  have := (up4_lt (Int.le_trans h0 h)).1 hy
  exact (up4_lt h0).2 (by omega)
theorem wv_cn (n : Bool) (a b c d : Int) : wv (cn n a b c d) a b c d = wv n a b c d := by
  unfold cn wv
  cases n
  · rfl
  · cases h : mz a b c d
    · rfl
    · have hw : a = 0 ∧ b = 0 ∧ c = 0 ∧ d = 0 := by simpa [mz, meq] using h
      obtain ⟨rfl, rfl, rfl, rfl⟩ := hw
      rfl
/-- A sign and an absolute value. -/
def sv (p : Bool) (m : Int) : Int := if p then -m else m
theorem wv_sv (n : Bool) (a b c d : Int) : wv n a b c d = sv (cn n a b c d) (MV a b c d) := (wv_cn n a b c d).symm
theorem ab_sv {p : Bool} {m : Int} (h : 0 ≤ m) : ab (sv p m) = m := by
  unfold sv ab; cases p <;> simp <;> omega
theorem sv_signed {p : Bool} {m : Int} (h0 : 0 ≤ m) (h : up4 m = 0) : WV (cn p (lb0 m) (lb1 m) (lb2 m) (lb3 m)) (lb0 m) (lb1 m) (lb2 m) (lb3 m) = WE (sv p m) := we_signed h0 h
theorem fits_sv {p : Bool} {m : Int} (h0 : 0 ≤ m) : Fits (sv p m) ↔ up4 m = 0 := by unfold Fits; rw [ab_sv h0]
theorem sv_add (p : Bool) (m k : Int) : sv p m + sv p k = sv p (m + k) := by unfold sv; cases p <;> simp <;> omega
theorem sv_sub {p q : Bool} (h : p ≠ q) (m k : Int) : sv p m + sv q k = sv p (m - k) := by unfold sv; cases p <;> cases q <;> simp at * <;> omega
theorem sv_sub' {p q : Bool} (h : p ≠ q) (m k : Int) : sv p m + sv q k = sv q (k - m) := by unfold sv; cases p <;> cases q <;> simp at * <;> omega
theorem sv_mul (p q : Bool) (m k : Int) : sv p m * sv q k = sv (p != q) (m * k) := by
  unfold sv; cases p <;> cases q <;> simp [Int.neg_mul, Int.mul_neg]
theorem mv_up4 {a b c d : Int} (h : U64 a) (h1 : U64 b) (h2 : U64 c) (h3 : U64 d) : up4 (MV a b c d) = 0 := up4_mv h h1 h2 h3

/-- Comparing words. -/
def cm (x y : Int) : Int := if x < y then -1 else if y < x then 1 else 0
def or4 (a b c d : Int) : Int := if a ≠ 0 then a else if b ≠ 0 then b else if c ≠ 0 then c else d
def cm4 (a0 a1 a2 a3 b0 b1 b2 b3 : Int) : Int := or4 (cm a3 b3) (cm a2 b2) (cm a1 b1) (cm a0 b0)
theorem cm_ge (x y : Int) : 0 ≤ cm x y ↔ y ≤ x := by unfold cm; split <;> (try split) <;> omega
theorem cm_step {a b x y : Int} (ha : U64 a) (hb : U64 b) : cm (a + 18446744073709551616 * x) (b + 18446744073709551616 * y) = if cm x y ≠ 0 then cm x y else cm a b := by
  obtain ⟨a1, a2⟩ := ha; obtain ⟨b1, b2⟩ := hb
  rcases Int.lt_trichotomy x y with h | h | h
  · have e : cm x y = -1 := if_pos h
    rw [e, if_pos (by decide)]
    exact if_pos (by omega)
  · subst h
    have e : cm x x = 0 := by unfold cm; rw [if_neg (by omega), if_neg (by omega)]
    rw [e, if_neg (by decide)]
    unfold cm
    by_cases h1 : a < b
    · rw [if_pos h1, if_pos (by omega)]
    · rw [if_neg h1, if_neg (by omega)]
      by_cases h2 : b < a
      · rw [if_pos h2, if_pos (by omega)]
      · rw [if_neg h2, if_neg (by omega)]
  · have e : cm x y = 1 := by unfold cm; rw [if_neg (by omega), if_pos h]
    rw [e, if_pos (by decide)]
    unfold cm
    rw [if_neg (by omega), if_pos (by omega)]
theorem cm4_mv {a0 a1 a2 a3 b0 b1 b2 b3 : Int} (ha0 : U64 a0) (ha1 : U64 a1) (ha2 : U64 a2) (hb0 : U64 b0) (hb1 : U64 b1) (hb2 : U64 b2) :
    cm4 a0 a1 a2 a3 b0 b1 b2 b3 = cm (MV a0 a1 a2 a3) (MV b0 b1 b2 b3) := by
  unfold MV cm4
  rw [cm_step ha0 hb0, cm_step ha1 hb1, cm_step ha2 hb2]
  unfold or4
  generalize cm a3 b3 = p
  generalize cm a2 b2 = q
  generalize cm a1 b1 = r
  by_cases h1 : p = 0 <;> by_cases h2 : q = 0 <;> by_cases h3 : r = 0 <;> simp [h1, h2, h3]

end Go.Proofs.Ythcboomdkpiflaa
