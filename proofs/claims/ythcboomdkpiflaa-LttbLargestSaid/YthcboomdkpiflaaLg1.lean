/- Several texts in one: Plain, WPlain, TPlain, RPlain, Shelf, Wide, WideB, Tool, Slice, Drift, RefA, WideM, RefB. -/
import Derived.WalkKit
import Derived.Laws.BitsAllLaws
import Derived.OpenShut
import Derived.ProofKit
import Derived.Test.YthcboomdkpiflaaRows
import Derived.Shelf.Bits.Mul64
import Derived.Test.YthcboomdkpiflaaProg
import Derived.WalkLawsBesides
import Derived.WalkSpells
import Derived.ChangeKeysEq
import Derived.Laws.Externs
import Derived.RegionTactic
import Derived.ChangeAlike
import Derived.BigRegion
import Derived.Outline
import Derived.Handy
import Derived.Deep.QuietTactic
import Derived.BigQuiet
import Derived.Deep.RegionWith
import Derived.Deep.RegionHeld3
import Derived.StillTailTactics
import Derived.Maps.AppendAt
import Derived.OwnWalk
import Derived.Laws.OwnMore
import Derived.StillTail
import Derived.OrdersHeld
import Derived.Laws.IdiomCopy
import Derived.Deep.DeepCutAuto

/- Plain: Plain facts on 64-bit numbers: ranges, the middle of two numbers, distances. No program in sight. -/
namespace Go.Proofs.Ythcboomdkpiflaa
open Go.RowKit
set_option linter.unusedVariables false
set_option linter.unusedSimpArgs false
theorem hid {p : Prop} (h : p) : Hid p := h
def I64 (x : Int) : Prop := -9223372036854775808 ≤ x ∧ x ≤ 9223372036854775807
def U64 (x : Int) : Prop := 0 ≤ x ∧ x ≤ 18446744073709551615
theorem I64.of_wf {x : Int} (h : (Lit.int .i64 x).wf = true) : I64 x := bounds_i64 h
theorem U64.of_wf {x : Int} (h : (Lit.int .u64 x).wf = true) : U64 x := bounds_u64 h
theorem wrap64_id (n : Int) (h : I64 n) : wrap64 n = n := IntWalk.wrap64_in n h
def rng (x : Int) : Bool := decide (-9223372036854775808 ≤ x) && decide (x ≤ 9223372036854775807)
def orZ (p : Bool) (x : Int) : Int := if p then x else 0
def dst (a b : Int) : Int := if a < b then b - a else a - b
theorem rng_iff (x : Int) : rng x = true ↔ I64 x := by simp [rng, I64]
theorem rng_yes {x : Int} (h : I64 x) : rng x = true := (rng_iff x).2 h
theorem rng_no {x : Int} (h : ¬ I64 x) : rng x = false := by
  cases e : rng x
  · rfl
  · exact absurd ((rng_iff x).1 e) h
theorem yes_ib {x s : Int} {p : Bool} (hx : x = s) (hp : p = true) (h : I64 s) : Ending.returned (.tuple #[.int .i64 x, .bool p]) = .returned (.tuple #[.int .i64 (orZ (rng s) s), .bool (rng s)]) := by
  rw [rng_yes h, hx, hp]; rfl
theorem no_ib {x s : Int} {p : Bool} (hx : x = 0) (hp : p = false) (h : ¬ I64 s) : Ending.returned (.tuple #[.int .i64 x, .bool p]) = .returned (.tuple #[.int .i64 (orZ (rng s) s), .bool (rng s)]) := by
  rw [rng_no h, hx, hp]; rfl
theorem ret_i {k : IntKind} {a b : Int} (h : a = b) : Ending.returned (.int k a) = .returned (.int k b) := by rw [h]
theorem ret_b {a b : Bool} (h : a = b) : Ending.returned (.bool a) = .returned (.bool b) := by rw [h]
theorem wrap64_pos_over (s : Int) (h : 9223372036854775807 < s) (h' : s ≤ 18446744073709551615) : wrap64 s < 0 := by
  simp only [wrap64]; omega
theorem wrap64_neg_over (s : Int) (h : s < -9223372036854775808) (h' : -18446744073709551616 ≤ s) : 0 ≤ wrap64 s := by
  simp only [wrap64]; omega
theorem u64_wrap_id (x : Int) (h : U64 x) : IntKind.u64.wrap x = x := by
  obtain ⟨h1, h2⟩ := h
  rw [IntKind.wrap_u64]; omega
theorem dT {p : Prop} [Decidable p] (h : p) : decide p = true := decide_eq_true h
theorem dF {p : Prop} [Decidable p] (h : ¬ p) : decide p = false := decide_eq_false h
def mag (a : Int) : Int := if a < 0 then -a else a
def hi64 (x y : Int) : Int := x * y / 18446744073709551616
def lo64 (x y : Int) : Int := x * y % 18446744073709551616
theorem mag_neg (a : Int) (ha : I64 a) (h : a < 0) : IntKind.u64.wrap (-IntKind.u64.wrap a) = mag a := by
  obtain ⟨a1, a2⟩ := ha
  unfold mag; rw [if_pos h, IntKind.wrap_u64, IntKind.wrap_u64]; omega
theorem hilo_nat (n m : Nat) : ((n * m / 18446744073709551616 : Nat) : Int) = hi64 n m := by
  unfold hi64; rw [Int.natCast_ediv, Int.natCast_mul]; rfl
theorem lo_nat (n m : Nat) : ((n * m % 18446744073709551616 : Nat) : Int) = lo64 n m := by
  unfold lo64; rw [Int.natCast_emod, Int.natCast_mul]; rfl
theorem u64_wrap_in (x : Int) : U64 (IntKind.u64.wrap x) := by rw [IntKind.wrap_u64]; exact ⟨by omega, by omega⟩
theorem i64_wrap_in (x : Int) : I64 (wrap64 x) := by simp only [wrap64]; exact ⟨by omega, by omega⟩
end Go.Proofs.Ythcboomdkpiflaa

/- WPlain: Integers in words of 64 bits: plain facts. -/
namespace Go.Proofs.Ythcboomdkpiflaa
open Go.RowKit
set_option linter.unusedVariables false
set_option linter.unusedSimpArgs false
def s64 (x y c : Int) : Int := (x + y + c) % 18446744073709551616
def c64 (x y c : Int) : Int := (x + y + c) / 18446744073709551616
def d64 (x y b : Int) : Int := (x - y - b) % 18446744073709551616
def b64 (x y b : Int) : Int := if x < y + b then 1 else 0
def Bit (c : Int) : Prop := 0 ≤ c ∧ c ≤ 1
theorem c64_bit {x y c : Int} (hx : U64 x) (hy : U64 y) (hc : Bit c) : Bit (c64 x y c) := by
  obtain ⟨x1, x2⟩ := hx; obtain ⟨y1, y2⟩ := hy; obtain ⟨c1, c2⟩ := hc
  unfold c64; exact ⟨by omega, by omega⟩
theorem b64_bit (x y b : Int) : Bit (b64 x y b) := by unfold b64; split <;> exact ⟨by decide, by decide⟩
theorem s64_in (x y c : Int) : U64 (s64 x y c) := ⟨by unfold s64; omega, by unfold s64; omega⟩
theorem d64_in (x y c : Int) : U64 (d64 x y c) := ⟨by unfold d64; omega, by unfold d64; omega⟩
theorem Bit.zero : Bit 0 := ⟨by decide, by decide⟩
theorem U64.zero : U64 0 := ⟨by decide, by decide⟩
/-- The words of an integer, the least significant one first, and the value of four words. -/
def lb0 (z : Int) : Int := z % 18446744073709551616
def up1 (z : Int) : Int := z / 18446744073709551616
def lb1 (z : Int) : Int := lb0 (up1 z)
def lb2 (z : Int) : Int := lb0 (up1 (up1 z))
def lb3 (z : Int) : Int := lb0 (up1 (up1 (up1 z)))
def up4 (z : Int) : Int := up1 (up1 (up1 (up1 z)))
def MV (a b c d : Int) : Int := a + 18446744073709551616 * (b + 18446744073709551616 * (c + 18446744073709551616 * d))
theorem lb0_in (z : Int) : U64 (lb0 z) := ⟨by unfold lb0; omega, by unfold lb0; omega⟩
theorem lb1_in (z : Int) : U64 (lb1 z) := lb0_in _
theorem lb2_in (z : Int) : U64 (lb2 z) := lb0_in _
theorem lb3_in (z : Int) : U64 (lb3 z) := lb0_in _
theorem lb0_add (t r : Int) : lb0 (t + 18446744073709551616 * r) = lb0 t := by unfold lb0; omega
theorem up1_add (t r : Int) : up1 (t + 18446744073709551616 * r) = up1 t + r := by unfold up1; omega
theorem lb0_id {x : Int} (h : U64 x) : lb0 x = x := by obtain ⟨h1, h2⟩ := h; unfold lb0; omega
theorem up1_id {x : Int} (h : U64 x) : up1 x = 0 := by obtain ⟨h1, h2⟩ := h; unfold up1; omega
theorem lb_up (z : Int) : lb0 z + 18446744073709551616 * up1 z = z := by unfold lb0 up1; omega
theorem lb0_mv {a : Int} (b c d : Int) (h : U64 a) : lb0 (MV a b c d) = a := by unfold MV; rw [lb0_add, lb0_id h]
theorem up1_mv {a : Int} (b c d : Int) (h : U64 a) : up1 (MV a b c d) = b + 18446744073709551616 * (c + 18446744073709551616 * d) := by unfold MV; rw [up1_add, up1_id h, Int.zero_add]
theorem lb1_mv {a b : Int} (c d : Int) (h : U64 a) (h1 : U64 b) : lb1 (MV a b c d) = b := by unfold lb1; rw [up1_mv _ _ _ h, lb0_add, lb0_id h1]
theorem up2_mv {a b : Int} (c d : Int) (h : U64 a) (h1 : U64 b) : up1 (up1 (MV a b c d)) = c + 18446744073709551616 * d := by rw [up1_mv _ _ _ h, up1_add, up1_id h1, Int.zero_add]
theorem lb2_mv {a b c : Int} (d : Int) (h : U64 a) (h1 : U64 b) (h2 : U64 c) : lb2 (MV a b c d) = c := by unfold lb2; rw [up2_mv _ _ h h1, lb0_add, lb0_id h2]
theorem up3_mv {a b c : Int} (d : Int) (h : U64 a) (h1 : U64 b) (h2 : U64 c) : up1 (up1 (up1 (MV a b c d))) = d := by rw [up2_mv _ _ h h1, up1_add, up1_id h2, Int.zero_add]
theorem lb3_mv {a b c d : Int} (h : U64 a) (h1 : U64 b) (h2 : U64 c) (h3 : U64 d) : lb3 (MV a b c d) = d := by unfold lb3; rw [up3_mv _ h h1 h2, lb0_id h3]
theorem up4_mv {a b c d : Int} (h : U64 a) (h1 : U64 b) (h2 : U64 c) (h3 : U64 d) : up4 (MV a b c d) = 0 := by unfold up4; rw [up3_mv _ h h1 h2, up1_id h3]
theorem mv_lb (z : Int) : MV (lb0 z) (lb1 z) (lb2 z) (up1 (up1 (up1 z))) = z := by
  unfold MV lb1 lb2
  rw [lb_up, lb_up, lb_up]
theorem mv_lb4 {z : Int} (h : up4 z = 0) : MV (lb0 z) (lb1 z) (lb2 z) (lb3 z) = z := by
  have e : lb3 z = up1 (up1 (up1 z)) := by
    have := lb_up (up1 (up1 (up1 z)))
    unfold up4 at h; unfold lb3; rw [h] at this; omega
  rw [e]; exact mv_lb z
theorem mv_nonneg {a b c d : Int} (h : U64 a) (h1 : U64 b) (h2 : U64 c) (h3 : U64 d) : 0 ≤ MV a b c d := by
  obtain ⟨x, _⟩ := h; obtain ⟨y, _⟩ := h1; obtain ⟨z, _⟩ := h2; obtain ⟨t, _⟩ := h3
  unfold MV
  have i1 : 0 ≤ c + 18446744073709551616 * d := by omega
  have i2 : 0 ≤ b + 18446744073709551616 * (c + 18446744073709551616 * d) := by generalize c + 18446744073709551616 * d = q at *; omega
  generalize b + 18446744073709551616 * (c + 18446744073709551616 * d) = q at *; omega
theorem up4_lt {z : Int} (h : 0 ≤ z) : up4 z = 0 ↔ z < 115792089237316195423570985008687907853269984665640564039457584007913129639936 := by
  have e : ∀ x : Int, up1 x = x / 18446744073709551616 := fun _ => rfl
  have e4 : up4 z = z / 115792089237316195423570985008687907853269984665640564039457584007913129639936 := by
    unfold up4; rw [e, e, e, e]
    rw [Int.ediv_ediv_of_nonneg (by decide), Int.ediv_ediv_of_nonneg (by decide), Int.ediv_ediv_of_nonneg (by decide)]; rfl
  rw [e4]
  constructor
  · intro h0; omega
  · intro h0; omega
theorem c64_up (x y c : Int) : c64 x y c = up1 (x + y + c) := rfl
theorem b64_up {x y b : Int} (hx : U64 x) (hy : U64 y) (hb : Bit b) : b64 x y b = -up1 (x - y - b) := by
  obtain ⟨x1, x2⟩ := hx; obtain ⟨y1, y2⟩ := hy; obtain ⟨c1, c2⟩ := hb
  unfold b64 up1; split <;> omega
/-- The sum of two values, word by word. -/
theorem sum_words {a0 a1 a2 a3 b0 b1 b2 b3 : Int} :
    lb0 (MV a0 a1 a2 a3 + MV b0 b1 b2 b3) = s64 a0 b0 0 ∧ lb1 (MV a0 a1 a2 a3 + MV b0 b1 b2 b3) = s64 a1 b1 (c64 a0 b0 0) ∧ lb2 (MV a0 a1 a2 a3 + MV b0 b1 b2 b3) = s64 a2 b2 (c64 a1 b1 (c64 a0 b0 0)) ∧
    lb3 (MV a0 a1 a2 a3 + MV b0 b1 b2 b3) = s64 a3 b3 (c64 a2 b2 (c64 a1 b1 (c64 a0 b0 0))) ∧ up4 (MV a0 a1 a2 a3 + MV b0 b1 b2 b3) = c64 a3 b3 (c64 a2 b2 (c64 a1 b1 (c64 a0 b0 0))) := by
  have e0 : MV a0 a1 a2 a3 + MV b0 b1 b2 b3 = (a0 + b0 + 0) + 18446744073709551616 * ((a1 + b1) + 18446744073709551616 * ((a2 + b2) + 18446744073709551616 * (a3 + b3))) := by unfold MV; omega
  have u1 : up1 (MV a0 a1 a2 a3 + MV b0 b1 b2 b3) = (a1 + b1 + c64 a0 b0 0) + 18446744073709551616 * ((a2 + b2) + 18446744073709551616 * (a3 + b3)) := by rw [e0, up1_add, ← c64_up]; omega
  have u2 : up1 (up1 (MV a0 a1 a2 a3 + MV b0 b1 b2 b3)) = (a2 + b2 + c64 a1 b1 (c64 a0 b0 0)) + 18446744073709551616 * (a3 + b3) := by rw [u1, up1_add, ← c64_up]; omega
  have u3 : up1 (up1 (up1 (MV a0 a1 a2 a3 + MV b0 b1 b2 b3))) = a3 + b3 + c64 a2 b2 (c64 a1 b1 (c64 a0 b0 0)) := by rw [u2, up1_add, ← c64_up]; omega
  refine ⟨?_, ?_, ?_, ?_, ?_⟩
  · rw [e0, lb0_add]; rfl
  · unfold lb1; rw [u1, lb0_add]; rfl
  · unfold lb2; rw [u2, lb0_add]; rfl
  · unfold lb3; rw [u3]; rfl
  · unfold up4; rw [u3]; rfl
/-- The difference of two values, word by word. -/
theorem diff_words {a0 a1 a2 a3 b0 b1 b2 b3 : Int} (ha0 : U64 a0) (ha1 : U64 a1) (ha2 : U64 a2) (hb0 : U64 b0) (hb1 : U64 b1) (hb2 : U64 b2) :
    lb0 (MV a0 a1 a2 a3 - MV b0 b1 b2 b3) = d64 a0 b0 0 ∧ lb1 (MV a0 a1 a2 a3 - MV b0 b1 b2 b3) = d64 a1 b1 (b64 a0 b0 0) ∧ lb2 (MV a0 a1 a2 a3 - MV b0 b1 b2 b3) = d64 a2 b2 (b64 a1 b1 (b64 a0 b0 0)) ∧
    lb3 (MV a0 a1 a2 a3 - MV b0 b1 b2 b3) = d64 a3 b3 (b64 a2 b2 (b64 a1 b1 (b64 a0 b0 0))) := by
  have e0 : MV a0 a1 a2 a3 - MV b0 b1 b2 b3 = (a0 - b0 - 0) + 18446744073709551616 * ((a1 - b1) + 18446744073709551616 * ((a2 - b2) + 18446744073709551616 * (a3 - b3))) := by unfold MV; omega
  have f0 := b64_up ha0 hb0 Bit.zero
  have f1 := b64_up ha1 hb1 (b64_bit a0 b0 0)
  have f2 := b64_up ha2 hb2 (b64_bit a1 b1 (b64 a0 b0 0))
  have u1 : up1 (MV a0 a1 a2 a3 - MV b0 b1 b2 b3) = (a1 - b1 - b64 a0 b0 0) + 18446744073709551616 * ((a2 - b2) + 18446744073709551616 * (a3 - b3)) := by rw [e0, up1_add]; omega
  have u2 : up1 (up1 (MV a0 a1 a2 a3 - MV b0 b1 b2 b3)) = (a2 - b2 - b64 a1 b1 (b64 a0 b0 0)) + 18446744073709551616 * (a3 - b3) := by rw [u1, up1_add]; omega
  have u3 : up1 (up1 (up1 (MV a0 a1 a2 a3 - MV b0 b1 b2 b3))) = a3 - b3 - b64 a2 b2 (b64 a1 b1 (b64 a0 b0 0)) := by rw [u2, up1_add]; omega
  refine ⟨?_, ?_, ?_, ?_⟩
  · rw [e0, lb0_add]; rfl
  · unfold lb1; rw [u1, lb0_add]; rfl
  · unfold lb2; rw [u2, lb0_add]; rfl
  · unfold lb3; rw [u3]; rfl
def meq (a b c d a' b' c' d' : Int) : Bool := a == a' && (b == b' && (c == c' && d == d'))
def mz (a b c d : Int) : Bool := meq a b c d 0 0 0 0
/-- The sign that counts: a negative 0 is 0. -/
def cn (n : Bool) (a b c d : Int) : Bool := n && !mz a b c d
def wv (n : Bool) (a b c d : Int) : Int := if n then -MV a b c d else MV a b c d
def sg (z : Int) : Bool := decide (z < 0)
def ab (z : Int) : Int := if z < 0 then -z else z
abbrev WV (n : Bool) (a b c d : Int) : Value := .agg #[.bool n, .int .u64 a, .int .u64 b, .int .u64 c, .int .u64 d]
abbrev MG (a b c d : Int) : Value := .agg #[.int .u64 a, .int .u64 b, .int .u64 c, .int .u64 d]
/-- The Wide of an integer. -/
abbrev WE (z : Int) : Value := WV (sg z) (lb0 (ab z)) (lb1 (ab z)) (lb2 (ab z)) (lb3 (ab z))
def Fits (z : Int) : Prop := up4 (ab z) = 0
theorem ab_nonneg (z : Int) : 0 ≤ ab z := by unfold ab; split <;> omega
theorem fits_lt (z : Int) : Fits z ↔ ab z < 115792089237316195423570985008687907853269984665640564039457584007913129639936 := up4_lt (ab_nonneg z)
theorem mz_iff {a b c d : Int} (h : U64 a) (h1 : U64 b) (h2 : U64 c) (h3 : U64 d) : mz a b c d = true ↔ MV a b c d = 0 := by
  unfold mz meq
  simp only [Bool.and_eq_true, beq_iff_eq]
  constructor
  · rintro ⟨rfl, rfl, rfl, rfl⟩; rfl
  · intro e
    have e0 := lb0_mv b c d h
    have e1 := lb1_mv c d h h1
    have e2 := lb2_mv d h h1 h2
    have e3 := lb3_mv h h1 h2 h3
    rw [e] at e0 e1 e2 e3
    exact ⟨e0.symm, e1.symm, e2.symm, e3.symm⟩
theorem ab_wv {n : Bool} {a b c d : Int} (h : U64 a) (h1 : U64 b) (h2 : U64 c) (h3 : U64 d) : ab (wv n a b c d) = MV a b c d := by
  have := mv_nonneg h h1 h2 h3
  cases n
  · show ab (MV a b c d) = _
    unfold ab; split <;> omega
  · show ab (-MV a b c d) = _
    unfold ab; split <;> omega
theorem sg_wv {n : Bool} {a b c d : Int} (h : U64 a) (h1 : U64 b) (h2 : U64 c) (h3 : U64 d) : sg (wv n a b c d) = cn n a b c d := by
  have h0 := mv_nonneg h h1 h2 h3
  unfold sg wv cn
  cases n
  · simp; omega
  · simp only [if_true, Bool.true_and]
    by_cases hz : MV a b c d = 0
    · rw [(mz_iff h h1 h2 h3).2 hz, hz]; rfl
    · have : mz a b c d = false := by
        cases e : mz a b c d
        · rfl
        · exact absurd ((mz_iff h h1 h2 h3).1 e) hz
      rw [this]; simp; omega
/-- A number with words is the Wide of its value. -/
theorem we_wv {n : Bool} {a b c d : Int} (h : U64 a) (h1 : U64 b) (h2 : U64 c) (h3 : U64 d) : WV (cn n a b c d) a b c d = WE (wv n a b c d) := by
  unfold WE
  rw [sg_wv h h1 h2 h3, ab_wv h h1 h2 h3, lb0_mv _ _ _ h, lb1_mv _ _ h h1, lb2_mv _ h h1 h2, lb3_mv h h1 h2 h3]
theorem wv_we {z : Int} (h : Fits z) : wv (sg z) (lb0 (ab z)) (lb1 (ab z)) (lb2 (ab z)) (lb3 (ab z)) = z := by
  unfold wv; rw [mv_lb4 h]
  unfold sg ab
  by_cases h0 : z < 0
  · simp [h0]
  · simp [h0]
theorem cn_we {z : Int} (h : Fits z) : cn (sg z) (lb0 (ab z)) (lb1 (ab z)) (lb2 (ab z)) (lb3 (ab z)) = sg z := by
  rw [← sg_wv (lb0_in _) (lb1_in _) (lb2_in _) (lb3_in _), wv_we h]
/-- The Wide of a number with a sign and words of an absolute value. -/
theorem we_signed {n : Bool} {m : Int} (h0 : 0 ≤ m) (h : up4 m = 0) : WV (cn n (lb0 m) (lb1 m) (lb2 m) (lb3 m)) (lb0 m) (lb1 m) (lb2 m) (lb3 m) = WE (if n then -m else m) := by
  rw [we_wv (lb0_in _) (lb1_in _) (lb2_in _) (lb3_in _)]
  unfold wv; rw [mv_lb4 h]
theorem we_zero : WE 0 = WV false 0 0 0 0 := rfl
theorem we_of_neg (v : Int) (hv : I64 v) (h : v < 0) : WE v = WV true (IntKind.u64.wrap (-IntKind.u64.wrap v)) 0 0 0 := by
  have h1 : sg v = true := dT h
  have h2 : ab v = -v := if_pos h
  have h3 : IntKind.u64.wrap (-IntKind.u64.wrap v) = -v := by rw [mag_neg v hv h]; unfold mag; rw [if_pos h]
  have h4 : U64 (-v) := ⟨by omega, by have := hv.1; omega⟩
  unfold WE
  rw [h1, h2, h3]
  unfold lb1 lb2 lb3
  rw [lb0_id h4, up1_id h4]; rfl
theorem we_uns (v : Int) (h4 : U64 v) : WE v = WV false v 0 0 0 := by
  have h : ¬ v < 0 := by have := h4.1; omega
  have h1 : sg v = false := dF h
  have h2 : ab v = v := if_neg h
  unfold WE
  rw [h1, h2]
  unfold lb1 lb2 lb3
  rw [lb0_id h4, up1_id h4]; rfl
theorem wv_not {n : Bool} {a b c d : Int} (h : U64 a) (h1 : U64 b) (h2 : U64 c) (h3 : U64 d) : wv (!cn n a b c d) a b c d = -wv n a b c d := by
  cases hz : mz a b c d
  · have : cn n a b c d = n := by unfold cn; rw [hz]; cases n <;> rfl
    rw [this]; unfold wv; cases n <;> simp
  · have e := (mz_iff h h1 h2 h3).1 hz
    unfold wv; rw [e]; cases n <;> cases cn _ a b c d <;> rfl
theorem we_neg {n : Bool} {a b c d : Int} (h : U64 a) (h1 : U64 b) (h2 : U64 c) (h3 : U64 d) : WE (-wv n a b c d) = WV (cn (!cn n a b c d) a b c d) a b c d := by
  rw [we_wv h h1 h2 h3, wv_not h h1 h2 h3]
/-- The integer if it fits, and 0 otherwise. -/
def cl (z : Int) : Int := if up4 (ab z) = 0 then z else 0
def fb (z : Int) : Bool := up4 (ab z) == 0
theorem fb_iff (z : Int) : fb z = true ↔ Fits z := beq_iff_eq
theorem cl_fit {z : Int} (h : Fits z) : cl z = z := if_pos h
theorem fb_fit {z : Int} (h : Fits z) : fb z = true := (fb_iff z).2 h
theorem cl_not {z : Int} (h : ¬Fits z) : cl z = 0 := if_neg h
theorem fb_not {z : Int} (h : ¬Fits z) : fb z = false := by
  cases e : fb z
  · rfl
  · exact absurd ((fb_iff z).1 e) h
theorem fits_cl (z : Int) : Fits (cl z) := by
  by_cases h : Fits z
  · rw [cl_fit h]; exact h
  · rw [cl_not h]; rfl
theorem up4_le {x y : Int} (h0 : 0 ≤ x) (h : x ≤ y) (hy : up4 y = 0) : up4 x = 0 := by
  have := (up4_lt (Int.le_trans h0 h)).1 hy
  exact (up4_lt h0).2 (by omega)
theorem wv_cn (n : Bool) (a b c d : Int) : wv (cn n a b c d) a b c d = wv n a b c d := by
  unfold cn wv
  cases n
  · rfl
  · cases h : mz a b c d
    · rfl
    · have hw : a = 0 ∧ b = 0 ∧ c = 0 ∧ d = 0 := by simpa [mz, meq] using h
      obtain ⟨rfl, rfl, rfl, rfl⟩ := hw
      rfl
/-- A sign and an absolute value. -/
def sv (p : Bool) (m : Int) : Int := if p then -m else m
theorem wv_sv (n : Bool) (a b c d : Int) : wv n a b c d = sv (cn n a b c d) (MV a b c d) := (wv_cn n a b c d).symm
theorem ab_sv {p : Bool} {m : Int} (h : 0 ≤ m) : ab (sv p m) = m := by
  unfold sv ab; cases p <;> simp <;> omega
theorem sv_signed {p : Bool} {m : Int} (h0 : 0 ≤ m) (h : up4 m = 0) : WV (cn p (lb0 m) (lb1 m) (lb2 m) (lb3 m)) (lb0 m) (lb1 m) (lb2 m) (lb3 m) = WE (sv p m) := we_signed h0 h
theorem fits_sv {p : Bool} {m : Int} (h0 : 0 ≤ m) : Fits (sv p m) ↔ up4 m = 0 := by unfold Fits; rw [ab_sv h0]
theorem sv_add (p : Bool) (m k : Int) : sv p m + sv p k = sv p (m + k) := by unfold sv; cases p <;> simp <;> omega
theorem sv_sub {p q : Bool} (h : p ≠ q) (m k : Int) : sv p m + sv q k = sv p (m - k) := by unfold sv; cases p <;> cases q <;> simp at * <;> omega
theorem sv_sub' {p q : Bool} (h : p ≠ q) (m k : Int) : sv p m + sv q k = sv q (k - m) := by unfold sv; cases p <;> cases q <;> simp at * <;> omega
theorem sv_mul (p q : Bool) (m k : Int) : sv p m * sv q k = sv (p != q) (m * k) := by
  unfold sv; cases p <;> cases q <;> simp [Int.neg_mul, Int.mul_neg]
theorem mv_up4 {a b c d : Int} (h : U64 a) (h1 : U64 b) (h2 : U64 c) (h3 : U64 d) : up4 (MV a b c d) = 0 := up4_mv h h1 h2 h3
/-- Comparing words. -/
def cm (x y : Int) : Int := if x < y then -1 else if y < x then 1 else 0
def or4 (a b c d : Int) : Int := if a ≠ 0 then a else if b ≠ 0 then b else if c ≠ 0 then c else d
def cm4 (a0 a1 a2 a3 b0 b1 b2 b3 : Int) : Int := or4 (cm a3 b3) (cm a2 b2) (cm a1 b1) (cm a0 b0)
theorem cm_ge (x y : Int) : 0 ≤ cm x y ↔ y ≤ x := by unfold cm; split <;> (try split) <;> omega
theorem cm_step {a b x y : Int} (ha : U64 a) (hb : U64 b) : cm (a + 18446744073709551616 * x) (b + 18446744073709551616 * y) = if cm x y ≠ 0 then cm x y else cm a b := by
  obtain ⟨a1, a2⟩ := ha; obtain ⟨b1, b2⟩ := hb
  rcases Int.lt_trichotomy x y with h | h | h
  · have e : cm x y = -1 := if_pos h
    rw [e, if_pos (by decide)]
    exact if_pos (by omega)
  · subst h
    have e : cm x x = 0 := by unfold cm; rw [if_neg (by omega), if_neg (by omega)]
    rw [e, if_neg (by decide)]
    unfold cm
    by_cases h1 : a < b
    · rw [if_pos h1, if_pos (by omega)]
    · rw [if_neg h1, if_neg (by omega)]
      by_cases h2 : b < a
      · rw [if_pos h2, if_pos (by omega)]
      · rw [if_neg h2, if_neg (by omega)]
  · have e : cm x y = 1 := by unfold cm; rw [if_neg (by omega), if_pos h]
    rw [e, if_pos (by decide)]
    unfold cm
    rw [if_neg (by omega), if_pos (by omega)]
theorem cm4_mv {a0 a1 a2 a3 b0 b1 b2 b3 : Int} (ha0 : U64 a0) (ha1 : U64 a1) (ha2 : U64 a2) (hb0 : U64 b0) (hb1 : U64 b1) (hb2 : U64 b2) :
    cm4 a0 a1 a2 a3 b0 b1 b2 b3 = cm (MV a0 a1 a2 a3) (MV b0 b1 b2 b3) := by
  unfold MV cm4
  rw [cm_step ha0 hb0, cm_step ha1 hb1, cm_step ha2 hb2]
  unfold or4
  generalize cm a3 b3 = p
  generalize cm a2 b2 = q
  generalize cm a1 b1 = r
  by_cases h1 : p = 0 <;> by_cases h2 : q = 0 <;> by_cases h3 : r = 0 <;> simp [h1, h2, h3]
end Go.Proofs.Ythcboomdkpiflaa

/- TPlain: Plain facts on the doubled area: every number on the way fits. No program in sight. -/
namespace Go.Proofs.Ythcboomdkpiflaa
set_option linter.unusedVariables false
set_option linter.unusedSimpArgs false
theorem fits_abs {z : Int} (h : z.natAbs < 115792089237316195423570985008687907853269984665640564039457584007913129639936) : Fits z := by
  refine (fits_lt z).2 ?_
  unfold ab
  split <;> omega
theorem abs_mul_le {x y : Int} {p q : Nat} (hx : x.natAbs ≤ p) (hy : y.natAbs ≤ q) : (x * y).natAbs ≤ p * q := by rw [Int.natAbs_mul]; exact Nat.mul_le_mul hx hy
theorem abs_sub_le {x y : Int} {p q : Nat} (hx : x.natAbs ≤ p) (hy : y.natAbs ≤ q) : (x - y).natAbs ≤ p + q := by omega
theorem abs_i64 {x : Int} (h : I64 x) : x.natAbs ≤ 9223372036854775808 := by obtain ⟨h1, h2⟩ := h; omega
/-- Numbers less than 2^128. -/
def Sm (z : Int) : Prop := z.natAbs < 340282366920938463463374607431768211456
/-- Numbers of samples. -/
def Cnt (m : Int) : Prop := 1 ≤ m ∧ m ≤ 1073741824
/-- The doubled area, with its sign. -/
def ar (t v bt bv times values m : Int) : Int := (bt - t) * (values - m * v) - (times - m * t) * (bv - v)
theorem abs_cnt {m : Int} (h : Cnt m) : m.natAbs ≤ 1073741824 := by obtain ⟨h1, h2⟩ := h; omega
theorem cnt_i64 {m : Int} (h : Cnt m) : I64 m := by obtain ⟨h1, h2⟩ := h; exact ⟨by omega, by omega⟩
theorem fits_i64 {x : Int} (h : I64 x) : Fits x := fits_abs (by have := abs_i64 h; omega)
theorem fits_cnt_mul {m t : Int} (hm : Cnt m) (ht : I64 t) : Fits (m * t) := fits_abs (by have := abs_mul_le (abs_cnt hm) (abs_i64 ht); omega)
theorem abs_rest {s m t : Int} (hs : Sm s) (hm : Cnt m) (ht : I64 t) : (s - m * t).natAbs ≤ 340282366930841983777657649630961205248 := by
  have := abs_sub_le (Nat.le_of_lt hs) (abs_mul_le (abs_cnt hm) (abs_i64 ht)); omega
theorem fits_rest {s m t : Int} (hs : Sm s) (hm : Cnt m) (ht : I64 t) : Fits (s - m * t) := fits_abs (by have := abs_rest hs hm ht; omega)
theorem abs_dif {x y : Int} (hx : I64 x) (hy : I64 y) : (x - y).natAbs ≤ 18446744073709551616 := by have := abs_sub_le (abs_i64 hx) (abs_i64 hy); omega
theorem fits_dif {x y : Int} (hx : I64 x) (hy : I64 y) : Fits (x - y) := fits_abs (by have := abs_dif hx hy; omega)
theorem fits_prod {x y s m t : Int} (hx : I64 x) (hy : I64 y) (hs : Sm s) (hm : Cnt m) (ht : I64 t) : Fits ((x - y) * (s - m * t)) := fits_abs (by have := abs_mul_le (abs_dif hx hy) (abs_rest hs hm ht); omega)
theorem fits_prod' {x y s m t : Int} (hx : I64 x) (hy : I64 y) (hs : Sm s) (hm : Cnt m) (ht : I64 t) : Fits ((s - m * t) * (x - y)) := by rw [Int.mul_comm]; exact fits_prod hx hy hs hm ht
theorem abs_ar {t v bt bv s u m : Int} (ht : I64 t) (hv : I64 v) (hbt : I64 bt) (hbv : I64 bv) (hs : Sm s) (hu : Sm u) (hm : Cnt m) : (ar t v bt bv s u m).natAbs ≤ 2 * (18446744073709551616 * 340282366930841983777657649630961205248) := by
  have h1 := abs_mul_le (abs_dif hbt ht) (abs_rest hu hm hv)
  have h2 := abs_mul_le (abs_rest hs hm ht) (abs_dif hbv hv)
  have := abs_sub_le h1 h2
  unfold ar
  omega
theorem fits_ar {t v bt bv s u m : Int} (ht : I64 t) (hv : I64 v) (hbt : I64 bt) (hbv : I64 bv) (hs : Sm s) (hu : Sm u) (hm : Cnt m) : Fits (ar t v bt bv s u m) := fits_abs (by have := abs_ar ht hv hbt hbv hs hu hm; omega)
theorem sm_wv {n : Bool} {a b : Int} (ha : U64 a) (hb : U64 b) : Sm (wv n a b 0 0) := by
  obtain ⟨a1, a2⟩ := ha; obtain ⟨b1, b2⟩ := hb
  unfold Sm wv MV
  cases n <;> simp <;> omega
theorem ab_ab (z : Int) : ab (ab z) = ab z := by unfold ab; split <;> (try split) <;> omega
theorem sg_ab (z : Int) : sg (ab z) = false := by unfold sg ab; split <;> (simp; omega)
/-- What Weighted returns. -/
def wgt (t v bt bv times values m : Int) (ok : Bool) : Int := if ok then ab (ar t v bt bv times values m) else 0
end Go.Proofs.Ythcboomdkpiflaa

/- RPlain: Plain facts on lists of words: the number that they are, its canonical words, sums, products, order. No program in sight. -/
namespace Go.Proofs.Ythcboomdkpiflaa
set_option linter.unusedVariables false
set_option linter.unusedSimpArgs false
def VL : List Int → Int
  | [] => 0
  | x :: l => x + 18446744073709551616 * VL l
def Ws (l : List Int) : Prop := ∀ x ∈ l, U64 x
/-- The powers of 2^64. -/
def pw : Nat → Int
  | 0 => 1
  | k + 1 => 18446744073709551616 * pw k
theorem pw_pos (k : Nat) : 0 < pw k := by
  induction k with
  | zero => simp [pw]
  | succ k ih => simp only [pw]; omega
theorem pw_succ (k : Nat) : pw (k + 1) = 18446744073709551616 * pw k := rfl
theorem pw_add (j k : Nat) : pw (j + k) = pw j * pw k := by
  induction j with
  | zero => simp [pw]
  | succ j ih => rw [Nat.succ_add, pw_succ, pw_succ, ih, Int.mul_assoc]
theorem Ws.cons {x : Int} {l : List Int} (h : Ws (x :: l)) : U64 x ∧ Ws l := ⟨h x List.mem_cons_self, fun y hy => h y (List.mem_cons_of_mem _ hy)⟩
theorem Ws.take {l : List Int} (h : Ws l) (k : Nat) : Ws (l.take k) := fun x hx => h x (List.mem_of_mem_take hx)
theorem Ws.drop {l : List Int} (h : Ws l) (k : Nat) : Ws (l.drop k) := fun x hx => h x (List.mem_of_mem_drop hx)
theorem Ws.append {l r : List Int} (h : Ws l) (h' : Ws r) : Ws (l ++ r) := fun x hx => (List.mem_append.1 hx).elim (h x) (h' x)
theorem Ws.nil : Ws [] := by intro x hx; cases hx
theorem Ws.one {x : Int} (h : U64 x) : Ws [x] := by intro y hy; simp at hy; subst hy; exact h
theorem Ws.set {l : List Int} (h : Ws l) {x : Int} (hx : U64 x) (k : Nat) : Ws (l.set k x) := fun y hy => by
  rcases List.mem_or_eq_of_mem_set hy with hy | rfl
  · exact h y hy
  · exact hx
theorem Ws.getD {l : List Int} (h : Ws l) (k : Nat) : U64 (l.getD k 0) := by
  rw [List.getD_eq_getElem?_getD]
  rcases Nat.lt_or_ge k l.length with hk | hk
  · rw [List.getElem?_eq_getElem hk]; exact h _ (List.getElem_mem _)
  · rw [List.getElem?_eq_none hk]; exact U64.zero
theorem Ws.zeros (n : Nat) : Ws (List.replicate n 0) := fun x hx => by rw [List.eq_of_mem_replicate hx]; exact U64.zero
theorem VL_append (l r : List Int) : VL (l ++ r) = VL l + pw l.length * VL r := by
  induction l with
  | nil => simp [VL, pw]
  | cons x l ih => rw [List.cons_append, List.length_cons]; simp only [VL, pw, ih, Int.mul_assoc, Int.mul_add, Int.add_assoc]
theorem VL_snoc (l : List Int) (x : Int) : VL (l ++ [x]) = VL l + pw l.length * x := by rw [VL_append]; simp [VL]
theorem VL_nonneg {l : List Int} (h : Ws l) : 0 ≤ VL l := by
  induction l with
  | nil => simp [VL]
  | cons x l ih => obtain ⟨⟨h1, _⟩, h2⟩ := h.cons; have := ih h2; simp only [VL]; omega
theorem VL_lt {l : List Int} (h : Ws l) : VL l < pw l.length := by
  induction l with
  | nil => simp [VL, pw]
  | cons x l ih => obtain ⟨⟨h1, h2⟩, h3⟩ := h.cons; have := ih h3; rw [List.length_cons]; simp only [VL, pw]; omega
theorem VL_zeros (n : Nat) : VL (List.replicate n 0) = 0 := by
  induction n with
  | zero => rfl
  | succ n ih => rw [List.replicate_succ]; simp only [VL, ih]; rfl
theorem VL_set (l : List Int) (k : Nat) (hk : k < l.length) (x : Int) : VL (l.set k x) = VL l + pw k * (x - l.getD k 0) := by
  induction l generalizing k with
  | nil => simp at hk
  | cons y l ih =>
    cases k with
    | zero => simp [VL, pw]; omega
    | succ k =>
      have := ih k (by simpa using hk)
      simp only [List.set_cons_succ, VL, this, pw, List.getD_cons_succ, Int.mul_add, Int.mul_assoc]
      omega
theorem take_snocD (l : List Int) (k : Nat) (hk : k < l.length) : l.take (k + 1) = l.take k ++ [l.getD k 0] := by
  rw [List.take_succ_eq_append_getElem hk, List.getD_eq_getElem?_getD, List.getElem?_eq_getElem hk]; rfl
/-- The first k words, where missing ones are 0. -/
def TV (l : List Int) (k : Nat) : Int := VL (l.take k)
theorem TV_zero (l : List Int) : TV l 0 = 0 := by simp [TV, VL]
theorem TV_succ (l : List Int) (k : Nat) : TV l (k + 1) = TV l k + pw k * l.getD k 0 := by
  unfold TV
  rcases Nat.lt_or_ge k l.length with hk | hk
  · rw [take_snocD l k hk, VL_snoc, List.length_take, Nat.min_eq_left (by omega)]
  · rw [List.take_of_length_le (by omega), List.take_of_length_le hk, List.getD_eq_getElem?_getD, List.getElem?_eq_none hk]; simp
theorem TV_all (l : List Int) (k : Nat) (h : l.length ≤ k) : TV l k = VL l := by unfold TV; rw [List.take_of_length_le h]
def wl (n : Int) : List Int := if h : n ≤ 0 then [] else (n % 18446744073709551616) :: wl (n / 18446744073709551616)
termination_by n.toNat
decreasing_by omega
theorem wl_nil {n : Int} (h : n ≤ 0) : wl n = [] := by rw [wl]; simp [h]
theorem wl_cons {n : Int} (h : 0 < n) : wl n = (n % 18446744073709551616) :: wl (n / 18446744073709551616) := by rw [wl]; simp [show ¬ n ≤ 0 by omega]
theorem wl_words (n : Int) : Ws (wl n) := by
  induction h : n.toNat using Nat.strongRecOn generalizing n with
  | ind k ih =>
    by_cases h0 : n ≤ 0
    · rw [wl_nil h0]; exact Ws.nil
    · rw [wl_cons (by omega)]
      intro x hx
      rcases List.mem_cons.1 hx with rfl | hx
      · exact ⟨by omega, by omega⟩
      · exact ih _ (by omega) _ rfl x hx
theorem VL_wl {n : Int} (h : 0 ≤ n) : VL (wl n) = n := by
  induction hk : n.toNat using Nat.strongRecOn generalizing n with
  | ind k ih =>
    by_cases h0 : n ≤ 0
    · rw [wl_nil h0]; simp [VL]; omega
    · rw [wl_cons (by omega)]
      simp only [VL]
      rw [ih _ (by omega) (by omega) rfl]; omega
theorem wl_ne {n : Int} (h : 0 < n) : wl n ≠ [] := by rw [wl_cons h]; simp
/-- The canonical words of a list's number: the list without zeros at the end. -/
theorem wl_VL {l : List Int} (h : Ws l) : ∃ k, k ≤ l.length ∧ wl (VL l) = l.take k ∧ (∀ j, k ≤ j → l.getD j 0 = 0) ∧ (0 < k → l.getD (k - 1) 0 ≠ 0) := by
  induction l with
  | nil => exact ⟨0, by simp, by simp [VL, wl_nil], by simp, by simp⟩
  | cons x l ih =>
    obtain ⟨⟨h1, h2⟩, h3⟩ := h.cons
    obtain ⟨k, hk, e, hz, hl⟩ := ih h3
    have hn := VL_nonneg h3
    have hm : (x + 18446744073709551616 * VL l) % 18446744073709551616 = x := by omega
    have hd : (x + 18446744073709551616 * VL l) / 18446744073709551616 = VL l := by omega
    by_cases h0 : x + 18446744073709551616 * VL l ≤ 0
    · have hx : x = 0 := by omega
      have hv : VL l = 0 := by omega
      refine ⟨0, by simp, by simp only [VL]; rw [wl_nil h0]; simp, fun j _ => ?_, by simp⟩
      rw [hv, wl_nil (Int.le_refl _)] at e
      have hk0 : k = 0 := by
        rcases Nat.eq_zero_or_pos k with h | h
        · exact h
        · have := congrArg List.length e; simp at this; omega
      cases j with
      | zero => simpa using hx
      | succ j => simpa using hz j (by omega)
    · refine ⟨k + 1, by simp; omega, ?_, fun j hj => ?_, fun _ => ?_⟩
      · simp only [VL]; rw [wl_cons (by omega), hm, hd, e]; simp
      · cases j with
        | zero => omega
        | succ j => simpa using hz j (by omega)
      · rcases Nat.eq_zero_or_pos k with h | h
        · subst h
          have hv : VL l = 0 := by
            rcases Int.lt_or_le 0 (VL l) with h | h
            · exact absurd (by simpa using e) (wl_ne h)
            · omega
          simp; omega
        · have := hl h
          have e2 : k + 1 - 1 = (k - 1) + 1 := by omega
          rw [e2, List.getD_cons_succ]; exact this
theorem wl_take {l : List Int} (h : Ws l) {k : Nat} (hk : k ≤ l.length) (hz : ∀ j, k ≤ j → l.getD j 0 = 0) (hl : 0 < k → l.getD (k - 1) 0 ≠ 0) : wl (VL l) = l.take k ∧ (wl (VL l)).length = k := by
  obtain ⟨k', hk', e, hz', hl'⟩ := wl_VL h
  have : k = k' := by
    rcases Nat.lt_trichotomy k k' with h1 | h1 | h1
    · exact absurd (hz (k' - 1) (by omega)) (hl' (by omega))
    · exact h1
    · exact absurd (hz' (k - 1) (by omega)) (hl (by omega))
  subst this
  exact ⟨e, by rw [e]; simp; omega⟩
theorem wl_len_lt {n : Int} (h : 0 ≤ n) (k : Nat) : (wl n).length ≤ k ↔ n < pw k := by
  constructor
  · intro hl
    have h1 := VL_lt (wl_words n)
    rw [VL_wl h] at h1
    have : pw (wl n).length ≤ pw k := by
      obtain ⟨d, rfl⟩ : ∃ d, k = (wl n).length + d := ⟨k - (wl n).length, by omega⟩
      rw [pw_add]
      have h2 := pw_pos (wl n).length
      have h3 := pw_pos d
      have := Int.mul_le_mul_of_nonneg_left (show (1 : Int) ≤ pw d by omega) (show 0 ≤ pw (wl n).length by omega)
      omega
    omega
  · induction k generalizing n with
    | zero => intro h1; simp [pw] at h1; rw [wl_nil (by omega)]; simp
    | succ k ih =>
      intro h1
      by_cases h0 : n ≤ 0
      · rw [wl_nil h0]; simp
      · rw [wl_cons (by omega), List.length_cons]
        have := ih (n := n / 18446744073709551616) (by omega) (by rw [pw_succ] at h1; omega)
        omega
theorem add_round {s c' x y c A Ba Bb P : Int} (e : s + 18446744073709551616 * c' = x + y + c) (h : A + P * c = Ba + Bb) : A + P * s + 18446744073709551616 * P * c' = (Ba + P * x) + (Bb + P * y) := by
  have h1 : P * s + 18446744073709551616 * P * c' = P * (s + 18446744073709551616 * c') := by rw [Int.mul_add, Int.mul_comm 18446744073709551616 P, Int.mul_assoc]
  have h2 : P * (x + y + c) = P * x + P * y + P * c := by rw [Int.mul_add, Int.mul_add]
  rw [e] at h1
  omega
theorem sub_round {s c' x y c A Ba Bb P : Int} (e : s - 18446744073709551616 * c' = x - y - c) (h : A - P * c = Ba - Bb) : A + P * s - 18446744073709551616 * P * c' = (Ba + P * x) - (Bb + P * y) := by
  have h1 : P * s - 18446744073709551616 * P * c' = P * (s - 18446744073709551616 * c') := by rw [Int.mul_sub, Int.mul_comm 18446744073709551616 P, Int.mul_assoc]
  have h2 : P * (x - y - c) = P * x - P * y - P * c := by rw [Int.mul_sub, Int.mul_sub]
  rw [e] at h1
  omega
theorem s64_sum (x y c : Int) : s64 x y c + 18446744073709551616 * c64 x y c = x + y + c := by unfold s64 c64; omega
theorem d64_diff {x y b : Int} (hx : U64 x) (hy : U64 y) (hb : Bit b) : d64 x y b - 18446744073709551616 * b64 x y b = x - y - b := by
  obtain ⟨x1, x2⟩ := hx; obtain ⟨y1, y2⟩ := hy; obtain ⟨b1, b2⟩ := hb
  unfold d64 b64; split <;> omega
theorem VL_split (l : List Int) (k : Nat) : VL l = VL (l.take k) + pw (min k l.length) * VL (l.drop k) := by
  conv => lhs; rw [← List.take_append_drop k l]
  rw [VL_append, List.length_take]
theorem VL_top {A B : List Int} (hA : Ws A) (hB : Ws B) (hl : A.length = B.length) {i : Nat} (hi : i < A.length) (he : ∀ j, i < j → A.getD j 0 = B.getD j 0) (hlt : A.getD i 0 < B.getD i 0) : VL A < VL B := by
  have d : A.drop (i + 1) = B.drop (i + 1) := by
    apply List.ext_getElem
    · simp [hl]
    · intro j h1 h2
      simp only [List.length_drop] at h1 h2
      have := he (i + 1 + j) (by omega)
      rw [List.getD_eq_getElem?_getD, List.getD_eq_getElem?_getD, List.getElem?_eq_getElem (by omega), List.getElem?_eq_getElem (by omega)] at this
      simpa using this
  have a1 := VL_split A (i + 1)
  have b1 := VL_split B (i + 1)
  rw [Nat.min_eq_left (by omega)] at a1 b1
  rw [take_snocD A i hi, VL_snoc, List.length_take, Nat.min_eq_left (by omega)] at a1
  rw [take_snocD B i (by omega), VL_snoc, List.length_take, Nat.min_eq_left (by omega)] at b1
  rw [d] at a1
  have a2 := VL_lt (hA.take i)
  have b2 := VL_nonneg (hB.take i)
  rw [List.length_take, Nat.min_eq_left (by omega)] at a2
  have p := pw_pos i
  have h3 : pw i * (A.getD i 0 + 1) ≤ pw i * B.getD i 0 := Int.mul_le_mul_of_nonneg_left (by omega) (by omega)
  rw [Int.mul_add, Int.mul_one] at h3
  omega
theorem VL_same {A B : List Int} (hl : A.length = B.length) (he : ∀ j, A.getD j 0 = B.getD j 0) : A = B := by
  apply List.ext_getElem hl
  intro j h1 h2
  have := he j
  rwa [List.getD_eq_getElem?_getD, List.getD_eq_getElem?_getD, List.getElem?_eq_getElem h1, List.getElem?_eq_getElem h2] at this
theorem wl_lt_of_len {m n : Int} (hm : 0 ≤ m) (hn : 0 ≤ n) (h : (wl m).length < (wl n).length) : m < n := by
  have h1 := (wl_len_lt hm (wl m).length).1 (Nat.le_refl _)
  rcases Int.lt_or_le n (pw (wl m).length) with h2 | h2
  · have := (wl_len_lt hn _).2 h2; omega
  · omega
theorem cm_lt {x y : Int} (h : x < y) : cm x y = -1 := by unfold cm; rw [if_pos h]
theorem cm_gt {x y : Int} (h : y < x) : cm x y = 1 := by unfold cm; rw [if_neg (by omega), if_pos h]
theorem cm_eq (x : Int) : cm x x = 0 := by unfold cm; simp
theorem VL4 (a b c d : Int) : VL [a, b, c, d] = MV a b c d := by simp [VL, MV]
theorem pw4 : pw 4 = 115792089237316195423570985008687907853269984665640564039457584007913129639936 := by simp [pw]
theorem getD_wl4 {m : Int} (h0 : 0 ≤ m) (h : up4 m = 0) : (wl m).getD 0 0 = lb0 m ∧ (wl m).getD 1 0 = lb1 m ∧ (wl m).getD 2 0 = lb2 m ∧ (wl m).getD 3 0 = lb3 m ∧ (wl m).length ≤ 4 := by
  have hw : Ws [lb0 m, lb1 m, lb2 m, lb3 m] := by
    intro x hx
    simp at hx
    rcases hx with rfl | rfl | rfl | rfl
    · exact lb0_in _
    · exact lb1_in _
    · exact lb2_in _
    · exact lb3_in _
  have e : VL [lb0 m, lb1 m, lb2 m, lb3 m] = m := by rw [VL4, mv_lb4 h]
  obtain ⟨k, hk, e2, hz, hl⟩ := wl_VL hw
  rw [e] at e2
  have hlen : (wl m).length = k := by rw [e2]; simp at hk ⊢; omega
  have hg : ∀ j, (wl m).getD j 0 = [lb0 m, lb1 m, lb2 m, lb3 m].getD j 0 := fun j => by
    rcases Nat.lt_or_ge j k with h1 | h1
    · rw [e2, List.getD_eq_getElem?_getD, List.getD_eq_getElem?_getD, List.getElem?_take, if_pos h1]
    · rw [hz j h1, List.getD_eq_getElem?_getD, List.getElem?_eq_none (by omega)]; rfl
  exact ⟨hg 0, hg 1, hg 2, hg 3, by simp at hk; omega⟩
theorem wl_fit {m : Int} (h0 : 0 ≤ m) : (wl m).length ≤ 4 ↔ up4 m = 0 := by
  rw [wl_len_lt h0 4, pw4, up4_lt h0]
end Go.Proofs.Ythcboomdkpiflaa

/- Shelf:
  DERIVED: THE SHELF's CONTRACTS AT THIS DUMP, IN PLAIN WORDS (tools/lay-plain.mjs out of 'TryShelf.lean', which tools/lay-shelf.mjs wrote): THE SAME DECLARATIONS UNDER THE SAME NAMES: 'import', 'namespace', 'open', 'def', 'theorem' AND NOTHING ELSE: no command of the shelf's: FOR A HAND-IN. Each laying: the table of numbers ('.._ren') and one theorem, a field a fact of the dump's own or the kernel's comparison; each contract: ONE APPLICATION.
-/
namespace Go.Proofs
open Go.Shelf
def Try.lays264_ren : Go.Shelf.Ren := ⟨fun | 264 => 66 | n => n, fun | 53 => 24 | 46 => 83 | n => n, fun | n => n⟩
theorem Try.lays264 : Go.Proofs.Lays.n264 Try.prog Try.lays264_ren := {
  mixed := by kernel_rfl
  f264 := Try.func66.trans (congrArg some (by kernel_rfl))
  t46 := Try.underlying83
  a46 := Try.isAgg83
  z46 := Try.sizeOf83
  v46 := Try.zeroValue83
  t53 := Try.underlying24
  a53 := Try.isAgg24
  z53 := Try.sizeOf24
  v53 := Try.zeroValue24 }
open Go.RowKit Go.Lib in
theorem Try.bits_Mul64 (x y : Nat) (hx : x < 18446744073709551616) (hy : y < 18446744073709551616) (w : World) :
    Calls Try.prog 66 #[.int .u64 x, .int .u64 y] w fun e w' => e = .returned (.tuple #[.int .u64 ((x * y / 18446744073709551616 : Nat) : Int), .int .u64 ((x * y % 18446744073709551616 : Nat) : Int)]) ∧ w' = w := Any.bits_Mul64 Try.lays264 x y hx hy w
end Go.Proofs

/- Wide: The package wide: what its functions return, as exact integers. First: equality, the carries, and the words. -/
namespace Go.Proofs.Ythcboomdkpiflaa
open Go.ChangeShapes Go.WideShapes Go.ChangeAt Go.RowKit
set_option linter.unusedVariables false
set_option linter.unusedSimpArgs false
theorem info_u64 : (Try.prog.info? 24).map (fun i => (i.zero, i.size, i.bytes)) = some (some (.int .u64 0), 1, 8) := by kernel_rfl
theorem eq_mag (a b c d a' b' c' d' : Int) (dd : Nat) (w : World) :
    (Op.equalIn (dd + 2) 25 (.agg #[.int .u64 a, .int .u64 b, .int .u64 c, .int .u64 d]) (.agg #[.int .u64 a', .int .u64 b', .int .u64 c', .int .u64 d'])).run Try.prog w = .ok (meq a b c d a' b' c' d') w := by
  obtain ⟨i0, hi, hz0, hz1, hz2⟩ := info_parts info_u64
  rw [run_equalIn_array w (dd + 1) _ _ Try.underlying25 hi]
  have hc : Try.prog.cellsOf 24 = 1 := by kernel_rfl
  have hr : List.range 4 = [0, 1, 2, 3] := rfl
  rw [hc, hr]
  have hu := Try.underlying24
  unfold meq
  by_cases h1 : a = a'
  · subst h1
    by_cases h2 : b = b'
    · subst h2
      by_cases h3 : c = c'
      · subst h3
        by_cases h4 : d = d'
        · subst h4; simp [Op.eqItems, go_sem]
        · have e4 : (d == d') = false := beq_eq_false_iff_ne.2 h4
          simp [Op.eqItems, go_sem, e4, h4]
      · have e3 : (c == c') = false := beq_eq_false_iff_ne.2 h3
        simp [Op.eqItems, go_sem, e3, h3]
    · have e2 : (b == b') = false := beq_eq_false_iff_ne.2 h2
      simp [Op.eqItems, go_sem, e2, h2]
  · have e1 : (a == a') = false := beq_eq_false_iff_ne.2 h1
    simp [Op.eqItems, go_sem, e1, h1]
theorem add64 {x y c : Int} (hx : U64 x) (hy : U64 y) (hc : Bit c) (w : World) : (callFunc 67 #[.int .u64 x, .int .u64 y, .int .u64 c]).run Try.prog w = .ok (.value (.tuple #[.int .u64 (s64 x y c), .int .u64 (c64 x y c)])) w := by
  rw [run_callFunc_extern Try.func67 (by kernel_rfl) (by kernel_rfl) (by kernel_rfl) (e := add64Entry) (by kernel_rfl), run_add64 x y c hx.1 hy.1 hc.1 hc.2]
  rfl
def sub64Entry' : Array Value → Sem Value := fun args => do
  let (x, y, b) ← Extern.MathBitsCarry.three "Sub64" args
  pure (Extern.MathBitsCarry.pair ((x + Extern.MathBitsCarry.m64 - y - b) % Extern.MathBitsCarry.m64) (if x < y + b then 1 else 0))
theorem run_sub64' {P : Program} (x y b : Nat) (hb : b ≤ 1) (w : World) :
    (sub64Entry' #[.int .u64 x, .int .u64 y, .int .u64 b]).run P w =
      .ok (.tuple #[.int .u64 (((x + 18446744073709551616 - y - b) % 18446744073709551616 : Nat) : Int), .int .u64 ((if x < y + b then 1 else 0 : Nat) : Int)]) w := by
  have : b = 0 ∨ b = 1 := by omega
  rcases this with rfl | rfl <;> rfl
theorem sub64 {x y b : Int} (hx : U64 x) (hy : U64 y) (hb : Bit b) (w : World) : (callFunc 68 #[.int .u64 x, .int .u64 y, .int .u64 b]).run Try.prog w = .ok (.value (.tuple #[.int .u64 (d64 x y b), .int .u64 (b64 x y b)])) w := by
  obtain ⟨x1, x2⟩ := hx; obtain ⟨y1, y2⟩ := hy; obtain ⟨b1, b2⟩ := hb
  obtain ⟨n, rfl⟩ := Int.eq_ofNat_of_zero_le x1
  obtain ⟨m, rfl⟩ := Int.eq_ofNat_of_zero_le y1
  obtain ⟨k, rfl⟩ := Int.eq_ofNat_of_zero_le b1
  rw [run_callFunc_extern Try.func68 (by kernel_rfl) (by kernel_rfl) (by kernel_rfl) (e := sub64Entry') (by kernel_rfl), run_sub64' n m k (by omega)]
  have e1 : (((n + 18446744073709551616 - m - k) % 18446744073709551616 : Nat) : Int) = d64 n m k := by unfold d64; omega
  have e2 : ((if n < m + k then 1 else 0 : Nat) : Int) = b64 n m k := by unfold b64; split <;> split <;> omega
  rw [e1, e2]; rfl
theorem blk_new (w : World) (o : Obj) {b : Nat} (h : b = w.heap.size) : (w.alloc o).heap[b]? = some o := by
  subst h
  show (w.heap.push o)[w.heap.size]? = some o
  simp
theorem blk_old {w : World} (o : Obj) {b : Nat} {x : Option Obj} (h : b < w.heap.size) (hx : w.heap[b]? = x) : (w.alloc o).heap[b]? = x := (Below.heap_alloc w o b h).trans hx
theorem blk_setne {w : World} {b : Nat} {a : Addr} (v : Value) {x : Option Obj} (h : b ≠ a.block) (hx : w.heap[b]? = x) : (w.setCell a v).heap[b]? = x := (Below.heap_setCell w a v b h).trans hx
theorem blk_ne5 {w : World} {b b' : Nat} {x : Option Obj} (v0 v1 v2 v3 v4 : Value) (hne : b' ≠ b) (h : w.heap[b']? = x) :
    (((((w.setCell ⟨b, 0, none⟩ v0).setCell ⟨b, 1, none⟩ v1).setCell ⟨b, 2, none⟩ v2).setCell ⟨b, 3, none⟩ v3).setCell ⟨b, 4, none⟩ v4).heap[b']? = x :=
  blk_setne v4 hne (blk_setne v3 hne (blk_setne v2 hne (blk_setne v1 hne (blk_setne v0 hne h))))
theorem blkc {w : World} {b : Nat} {cs : Array Value} {T : TypeId} (h : w.heap[b]? = some (.cells cs T (0, 0))) : (∀ i, w.cell? ⟨b, i, none⟩ = cs[i]?) ∧ (∀ i, w.frozen? ⟨b, i, none⟩ = false) :=
  ⟨fun i => by simp [World.cell?, h], fun i => by simp [World.frozen?, h]⟩
theorem bcell {W w1 : World} (hb : Below W.heap.size W w1) : (∀ b o, b < W.heap.size → w1.cell? ⟨b, o, none⟩ = W.cell? ⟨b, o, none⟩) ∧ (∀ b o, b < W.heap.size → w1.frozen? ⟨b, o, none⟩ = W.frozen? ⟨b, o, none⟩) ∧ W.heap.size ≤ w1.heap.size :=
  ⟨fun b o h => hb.cell (p := ⟨b, o, none⟩) h, fun b o h => hb.frozen (p := ⟨b, o, none⟩) h, hb.size⟩
set_option maxHeartbeats 1600000 in
set_option maxRecDepth 100000 in
theorem wadd_any (a0 a1 a2 a3 b0 b1 b2 b3 : Int) (ha0 : U64 a0) (ha1 : U64 a1) (ha2 : U64 a2) (ha3 : U64 a3) (hb0 : U64 b0) (hb1 : U64 b1) (hb2 : U64 b2) (hb3 : U64 b3) (w : World) :
    Calls Try.prog 87 #[MG a0 a1 a2 a3, MG b0 b1 b2 b3] w fun e w' => e = .returned (.tuple #[MG (lb0 (MV a0 a1 a2 a3 + MV b0 b1 b2 b3)) (lb1 (MV a0 a1 a2 a3 + MV b0 b1 b2 b3)) (lb2 (MV a0 a1 a2 a3 + MV b0 b1 b2 b3)) (lb3 (MV a0 a1 a2 a3 + MV b0 b1 b2 b3)), .int .u64 (up4 (MV a0 a1 a2 a3 + MV b0 b1 b2 b3))]) ∧ Below w.heap.size w w' := by
  have k0 := c64_bit ha0 hb0 Bit.zero
  have k1 := c64_bit ha1 hb1 k0
  have k2 := c64_bit ha2 hb2 k1
  have A0 := fun W => add64 ha0 hb0 Bit.zero W
  have A1 := fun W => add64 ha1 hb1 k0 W
  have A2 := fun W => add64 ha2 hb2 k1 W
  have A3 := fun W => add64 ha3 hb3 k2 W
  obtain ⟨e0, e1, e2, e3, e4⟩ := sum_words (a0 := a0) (a1 := a1) (a2 := a2) (a3 := a3) (b0 := b0) (b1 := b1) (b2 := b2) (b3 := b3)
  rw [e0, e1, e2, e3, e4]
  clear k0 k1 k2 ha0 ha1 ha2 ha3 hb0 hb1 hb2 hb3 e0 e1 e2 e3 e4
  go_enter Try.func87, Try.ntmps87
  go_wp2
  refine wp_loop_rounds 5 ?_
  rw [rounds_succ]
  go_wp2
  go_region
  go_wp2
  rw [rounds_succ]
  go_wp2
  go_region
  go_wp2
  rw [rounds_succ]
  go_wp2
  go_region
  go_wp2
  rw [rounds_succ]
  go_wp2
  go_region
  go_wp2
  rw [rounds_succ]
  go_wp2
  go_returns
  exact ⟨rfl, (by (repeat' (first | (with_reducible exact Below.refl _ _) | (with_reducible refine Below.alloc ?_ ?_ _) | (with_reducible refine Below.setCell ?_ ?_ _) | (with_reducible refine Below.drew ?_) | (with_reducible refine Below.trans ?_ (Below.mono (by with_reducible assumption) ?_)) | go_size)))⟩
set_option maxHeartbeats 1600000 in
set_option maxRecDepth 100000 in
theorem wsub_any (a0 a1 a2 a3 b0 b1 b2 b3 : Int) (ha0 : U64 a0) (ha1 : U64 a1) (ha2 : U64 a2) (ha3 : U64 a3) (hb0 : U64 b0) (hb1 : U64 b1) (hb2 : U64 b2) (hb3 : U64 b3) (w : World) :
    Calls Try.prog 88 #[MG a0 a1 a2 a3, MG b0 b1 b2 b3] w fun e w' => e = .returned (MG (lb0 (MV a0 a1 a2 a3 - MV b0 b1 b2 b3)) (lb1 (MV a0 a1 a2 a3 - MV b0 b1 b2 b3)) (lb2 (MV a0 a1 a2 a3 - MV b0 b1 b2 b3)) (lb3 (MV a0 a1 a2 a3 - MV b0 b1 b2 b3))) ∧ Below w.heap.size w w' := by
  have k0 := b64_bit a0 b0 0
  have k1 := b64_bit a1 b1 (b64 a0 b0 0)
  have k2 := b64_bit a2 b2 (b64 a1 b1 (b64 a0 b0 0))
  have A0 := fun W => sub64 ha0 hb0 Bit.zero W
  have A1 := fun W => sub64 ha1 hb1 k0 W
  have A2 := fun W => sub64 ha2 hb2 k1 W
  have A3 := fun W => sub64 ha3 hb3 k2 W
  obtain ⟨e0, e1, e2, e3⟩ := diff_words (a3 := a3) (b3 := b3) ha0 ha1 ha2 hb0 hb1 hb2
  rw [e0, e1, e2, e3]
  clear k0 k1 k2 ha0 ha1 ha2 ha3 hb0 hb1 hb2 hb3 e0 e1 e2 e3
  go_enter Try.func88, Try.ntmps88
  go_wp2
  refine wp_loop_rounds 5 ?_
  rw [rounds_succ]
  go_wp2
  go_region
  go_wp2
  rw [rounds_succ]
  go_wp2
  go_region
  go_wp2
  rw [rounds_succ]
  go_wp2
  go_region
  go_wp2
  rw [rounds_succ]
  go_wp2
  go_region
  go_wp2
  rw [rounds_succ]
  go_wp2
  go_returns
  exact ⟨rfl, (by (repeat' (first | (with_reducible exact Below.refl _ _) | (with_reducible refine Below.alloc ?_ ?_ _) | (with_reducible refine Below.setCell ?_ ?_ _) | (with_reducible refine Below.drew ?_) | (with_reducible refine Below.trans ?_ (Below.mono (by with_reducible assumption) ?_)) | go_size)))⟩
theorem valid_any (n : Bool) (a b c d : Int) (w : World) :
    Calls Try.prog 61 #[WV n a b c d] w fun e w' => e = .returned (.bool (!n || !mz a b c d)) ∧ Below w.heap.size w w' := by
  have E : ∀ W, (Op.equalIn 10000 25 (MG a b c d) (MG 0 0 0 0)).run Try.prog W = .ok (mz a b c d) W := fun W => eq_mag a b c d 0 0 0 0 9998 W
  cases n
  · go_enter Try.func61, Try.ntmps61
    go_wp2
    go_returns
    exact ⟨ret_b rfl, (by (repeat' (first | (with_reducible exact Below.refl _ _) | (with_reducible refine Below.alloc ?_ ?_ _) | (with_reducible refine Below.setCell ?_ ?_ _) | (with_reducible refine Below.drew ?_) | (with_reducible refine Below.trans ?_ (Below.mono (by with_reducible assumption) ?_)) | go_size)))⟩
  · go_enter Try.func61, Try.ntmps61
    go_wp2
    go_returns
    exact ⟨ret_b rfl, (by (repeat' (first | (with_reducible exact Below.refl _ _) | (with_reducible refine Below.alloc ?_ ?_ _) | (with_reducible refine Below.setCell ?_ ?_ _) | (with_reducible refine Below.drew ?_) | (with_reducible refine Below.trans ?_ (Below.mono (by with_reducible assumption) ?_)) | go_size)))⟩
theorem clean_any (n : Bool) (a b c d : Int) (w : World) :
    Calls Try.prog 78 #[WV n a b c d] w fun e w' => e = .returned (WV (cn n a b c d) a b c d) ∧ Below w.heap.size w w' := by
  cases hz : (n && mz a b c d)
  · have hv : (!n || !mz a b c d) = true := by revert hz; cases n <;> cases mz a b c d <;> simp
    have hc : cn n a b c d = n := by revert hz; unfold cn; cases n <;> cases mz a b c d <;> simp
    rw [hc]
    clear hz hc
    go_enter Try.func78, Try.ntmps78
    go_wp2_with (go_at_call 61; refine (valid_any _ _ _ _ _ _).mono ?_; rintro e w' ⟨rfl, hb⟩; obtain ⟨hc, hf, hsz⟩ := bcell hb; simp only [World.size_alloc, World.size_setCell, World.size_drew] at hsz)
    refine bodyPost_ret (v := WV n a b c d) ?_ rfl ⟨rfl, ?_⟩
    · simp [results, Try.results78, go_sem, hc]
    · (repeat' (first | (with_reducible exact Below.refl _ _) | (with_reducible refine Below.alloc ?_ ?_ _) | (with_reducible refine Below.setCell ?_ ?_ _) | (with_reducible refine Below.drew ?_) | (with_reducible refine Below.trans ?_ (Below.mono (by with_reducible assumption) ?_)) | go_size))
  · have hv : (!n || !mz a b c d) = false := by revert hz; cases n <;> cases mz a b c d <;> simp
    have hzz : mz a b c d = true := by revert hz; cases n <;> simp
    have hc : cn n a b c d = false := by unfold cn; rw [hzz]; simp
    have hw : a = 0 ∧ b = 0 ∧ c = 0 ∧ d = 0 := by simpa [mz, meq] using hzz
    obtain ⟨rfl, rfl, rfl, rfl⟩ := hw
    rw [hc]
    clear hz hc hzz
    go_enter Try.func78, Try.ntmps78
    go_wp2_with (go_at_call 61; refine (valid_any _ _ _ _ _ _).mono ?_; rintro e w' ⟨rfl, hb⟩; obtain ⟨hc, hf, hsz⟩ := bcell hb; simp only [World.size_alloc, World.size_setCell, World.size_drew] at hsz)
    refine bodyPost_ret (v := WV false 0 0 0 0) ?_ rfl ⟨rfl, ?_⟩
    · simp [results, Try.results78, go_sem, hc]
    · (repeat' (first | (with_reducible exact Below.refl _ _) | (with_reducible refine Below.alloc ?_ ?_ _) | (with_reducible refine Below.setCell ?_ ?_ _) | (with_reducible refine Below.drew ?_) | (with_reducible refine Below.trans ?_ (Below.mono (by with_reducible assumption) ?_)) | go_size))
theorem signed_any (n : Bool) (a b c d : Int) (w : World) :
    Calls Try.prog 80 #[.bool n, MG a b c d] w fun e w' => e = .returned (WV (cn n a b c d) a b c d) ∧ Below w.heap.size w w' := by
  go_enter Try.func80, Try.ntmps80
  go_wp2_with (go_at_call 78; refine (clean_any _ _ _ _ _ _).mono ?_; rintro e w' ⟨rfl, hb⟩; obtain ⟨hc, hf, hsz⟩ := bcell hb; simp only [World.size_alloc, World.size_setCell, World.size_drew] at hsz)
  refine bodyPost_ret (v := WV (cn n a b c d) a b c d) ?_ rfl ⟨rfl, ?_⟩
  · simp [results, Try.results80, go_sem, hc]
  · (repeat' (first | (with_reducible exact Below.refl _ _) | (with_reducible refine Below.alloc ?_ ?_ _) | (with_reducible refine Below.setCell ?_ ?_ _) | (with_reducible refine Below.drew ?_) | (with_reducible refine Below.trans ?_ (Below.mono (by with_reducible assumption) ?_)) | go_size))
end Go.Proofs.Ythcboomdkpiflaa

/- WideB: The package wide, continued: comparing, numbers, negation, sums. -/
namespace Go.Proofs.Ythcboomdkpiflaa
open Go.ChangeShapes Go.WideShapes Go.ChangeAt Go.RowKit
set_option linter.unusedVariables false
set_option linter.unusedSimpArgs false
theorem still_tail_drew {P : Program} {id : Nat} {Q : Exit → Act → World → Prop} {a : Act} {w : World} {l : List Oper} (n : Nat) (hm : P.follows .mixedOrders = true) (hB : Region.lexTailB .any l.toArray n = true)
    (h : wpStill P l.toArray w.drew (fun a' => wpList P l.toArray Q (l.drop n) a' w.drew) (l.take n) a) : (Code.region id l.toArray true).wp P Q a w := wp_region_still_tail n hm hB h
theorem still_same {P : Program} {f : FuncId} {args : Array Value} {w : World} {v : Value} (h : Calls P f args w fun e w' => e = .returned v ∧ w = w') : Calls P f args w fun e w' => e = .returned v ∧ w' = w :=
  h.mono fun _ _ ⟨he, hm⟩ => ⟨he, hm.symm⟩
theorem cmp_any (x y : Int) (w : World) :
    Calls Try.prog 90 #[.int .u64 x, .int .u64 y] w fun e w' => e = .returned (.int .i64 (cm x y)) ∧ w = w' := by
  by_cases h1 : x < y
  · have e : cm x y = -1 := by unfold cm; rw [if_pos h1]
    rw [e]
    clear e
    go_enter Try.func90, Try.ntmps90
    go_wp2
    go_ret
    exact ⟨rfl, rfl⟩
  · by_cases h2 : y < x
    · have e : cm x y = 1 := by unfold cm; rw [if_neg h1, if_pos h2]
      rw [e]
      clear e
      go_enter Try.func90, Try.ntmps90
      go_wp2
      go_ret
      exact ⟨rfl, rfl⟩
    · have e : cm x y = 0 := by unfold cm; rw [if_neg h1, if_neg h2]
      rw [e]
      clear e
      go_enter Try.func90, Try.ntmps90
      go_wp2
      go_ret
      exact ⟨rfl, rfl⟩
theorem or_any (g : Nat) (a b c d : Int) (w : World) (h0 : w.cell? ⟨g, 0, none⟩ = some (.int .i64 a)) (h1 : w.cell? ⟨g, 1, none⟩ = some (.int .i64 b)) (h2 : w.cell? ⟨g, 2, none⟩ = some (.int .i64 c)) (h3 : w.cell? ⟨g, 3, none⟩ = some (.int .i64 d)) :
    Calls Try.prog 89 #[.slice (some ⟨g, 0, none⟩) 4 4] w fun e w' => e = .returned (.int .i64 (or4 a b c d)) ∧ w = w' := by
  by_cases e0 : a = 0
  · have t0 : (a != 0) = false := by rw [e0]; rfl
    by_cases e1 : b = 0
    · have t1 : (b != 0) = false := by rw [e1]; rfl
      by_cases e2 : c = 0
      · have t2 : (c != 0) = false := by rw [e2]; rfl
        have e : or4 a b c d = d := by simp [or4, e0, e1, e2]
        rw [e]
        clear e e0 e1 e2
        by_cases e3 : d = 0
        · have t3 : (d != 0) = false := by rw [e3]; rfl
          have E := hid e3
          clear e3
          go_enter Try.func89, Try.ntmps89
          go_wp2
          refine wp_loop_rounds 5 ?_
          rw [rounds_succ]
          go_wp2
          rw [rounds_succ]
          go_wp2
          rw [rounds_succ]
          go_wp2
          rw [rounds_succ]
          go_wp2
          rw [rounds_succ]
          go_wp2
          go_ret
          exact ⟨ret_i E.out.symm, rfl⟩
        · have t3 : (d != 0) = true := bne_iff_ne.2 e3
          clear e3
          go_enter Try.func89, Try.ntmps89
          go_wp2
          go_rounds 5
          go_ret
          exact ⟨rfl, rfl⟩
      · have t2 : (c != 0) = true := bne_iff_ne.2 e2
        have e : or4 a b c d = c := by simp [or4, e0, e1, e2]
        rw [e]
        clear e e0 e1 e2
        go_enter Try.func89, Try.ntmps89
        go_wp2
        go_rounds 5
        go_ret
        exact ⟨rfl, rfl⟩
    · have t1 : (b != 0) = true := bne_iff_ne.2 e1
      have e : or4 a b c d = b := by simp [or4, e0, e1]
      rw [e]
      clear e e0 e1
      go_enter Try.func89, Try.ntmps89
      go_wp2
      go_rounds 5
      go_ret
      exact ⟨rfl, rfl⟩
  · have t0 : (a != 0) = true := bne_iff_ne.2 e0
    have e : or4 a b c d = a := by simp [or4, e0]
    rw [e]
    clear e e0
    go_enter Try.func89, Try.ntmps89
    go_wp2
    go_rounds 5
    go_ret
    exact ⟨rfl, rfl⟩
set_option maxRecDepth 100000 in
theorem wcompare_any (a0 a1 a2 a3 b0 b1 b2 b3 : Int) (w : World) :
    Calls Try.prog 85 #[MG a0 a1 a2 a3, MG b0 b1 b2 b3] w fun e w' => e = .returned (.int .i64 (cm4 a0 a1 a2 a3 b0 b1 b2 b3)) ∧ Below w.heap.size w w' := by
  go_enter Try.func85, Try.ntmps85
  go_wp2
  refine still_tail_drew 20 (by kernel_rfl) (by kernel_rfl) ?_
  simp only [List.take_succ_cons, List.take_zero, List.drop_succ_cons, List.drop_zero]
  repeat (first | still_step | still_call (still_same (cmp_any _ _ _)))
  refine wpStill_nil ?_
  go_wp2_with fail
  refine (or_any _ (cm a3 b3) (cm a2 b2) (cm a1 b1) (cm a0 b0) _ (by simp [go_sem]) (by simp [go_sem]) (by simp [go_sem]) (by simp [go_sem])).mono ?_
  rintro e w' ⟨rfl, rfl⟩
  go_wp2
  go_ret
  exact ⟨rfl, by (repeat' (first | (with_reducible exact Below.refl _ _) | (with_reducible refine Below.alloc ?_ ?_ _) | (with_reducible refine Below.setCell ?_ ?_ _) | (with_reducible refine Below.drew ?_) | (with_reducible refine Below.trans ?_ (Below.mono (by with_reducible assumption) ?_)) | go_size))⟩
theorem of_any (v : Int) (hv : I64 v) (w : World) :
    Calls Try.prog 38 #[.int .i64 v] w fun e w' => e = .returned (WE v) ∧ Below w.heap.size w w' := by
  obtain ⟨v1, v2⟩ := hv
  by_cases h : v < 0
  · have e : WE v = WV true (IntKind.u64.wrap (-IntKind.u64.wrap v)) 0 0 0 := we_of_neg v ⟨v1, v2⟩ h
    rw [e]
    clear e
    go_enter Try.func38, Try.ntmps38
    go_wp2
    go_returns
    exact ⟨rfl, by (repeat' (first | (with_reducible exact Below.refl _ _) | (with_reducible refine Below.alloc ?_ ?_ _) | (with_reducible refine Below.setCell ?_ ?_ _) | (with_reducible refine Below.drew ?_) | (with_reducible refine Below.trans ?_ (Below.mono (by with_reducible assumption) ?_)) | go_size))⟩
  · have e : WE v = WV false v 0 0 0 := we_uns v ⟨by omega, by omega⟩
    rw [e]
    clear e
    go_enter Try.func38, Try.ntmps38
    go_wp2
    go_returns
    exact ⟨rfl, by (repeat' (first | (with_reducible exact Below.refl _ _) | (with_reducible refine Below.alloc ?_ ?_ _) | (with_reducible refine Below.setCell ?_ ?_ _) | (with_reducible refine Below.drew ?_) | (with_reducible refine Below.trans ?_ (Below.mono (by with_reducible assumption) ?_)) | go_size))⟩
theorem neg_any (n : Bool) (a b c d : Int) (ha : U64 a) (hb : U64 b) (hc : U64 c) (hd : U64 d) (w : World) :
    Calls Try.prog 77 #[WV n a b c d] w fun e w' => e = .returned (WE (-wv n a b c d)) ∧ Below w.heap.size w w' := by
  have e : WE (-wv n a b c d) = WV (cn (!cn n a b c d) a b c d) a b c d := we_neg ha hb hc hd
  rw [e]
  clear e ha hb hc hd
  go_enter Try.func77, Try.ntmps77
  go_wp2_with fail
  refine (clean_any _ _ _ _ _ _).mono ?_
  rintro e w1 ⟨rfl, hb1⟩
  have B1 : w1.heap[w.heap.size]? = some (.cells #[.bool n, .int .u64 a, .int .u64 b, .int .u64 c, .int .u64 d] 27 (0, 0)) := (hb1.block _ (by go_size)).trans (blk_old _ (by go_size) (blk_new _ _ rfl))
  obtain ⟨B1c, B1f⟩ := blkc B1
  have B2 : w1.heap[w.heap.size + 1]? = some (.cells #[.bool false, .int .u64 0, .int .u64 0, .int .u64 0, .int .u64 0] 27 (0, 0)) := (hb1.block _ (by go_size)).trans (blk_new _ _ (by go_size))
  obtain ⟨B2c, B2f⟩ := blkc B2
  have H1 := hid hb1
  have hz1 := hb1.size
  simp only [World.size_alloc, World.size_setCell, World.size_drew] at hz1
  clear hb1
  have BB2 := hid B2
  clear B1 B2
  go_wp2_with fail
  refine (signed_any _ _ _ _ _ _).mono ?_
  rintro e w2 ⟨rfl, hb2⟩
  clear B1c B1f B2c B2f
  have D2 : w2.heap[w.heap.size + 1]? = some (.cells #[.bool false, .int .u64 0, .int .u64 0, .int .u64 0, .int .u64 0] 27 (0, 0)) := (hb2.block _ (by go_size)).trans (blk_ne5 _ _ _ _ _ (by omega) BB2.out)
  obtain ⟨D2c, D2f⟩ := blkc D2
  have H2 := hid hb2
  clear hb2 D2
  go_wp2
  refine bodyPost_ret (v := WV (cn (!cn n a b c d) a b c d) a b c d) ?_ rfl ⟨rfl, ?_⟩
  · simp [results, Try.results77, go_sem, D2c]
  · have hb1 := H1.out
    have hb2 := H2.out
    (repeat' (first | (with_reducible exact Below.refl _ _) | (with_reducible refine Below.alloc ?_ ?_ _) | (with_reducible refine Below.setCell ?_ ?_ _) | (with_reducible refine Below.drew ?_) | (with_reducible refine Below.trans ?_ (Below.mono (by with_reducible assumption) ?_)) | go_size))
end Go.Proofs.Ythcboomdkpiflaa

/- Tool: Blocks of the heap that hold a variable, and the walk behind a world that is laid open no more. -/
namespace Go.Proofs.Ythcboomdkpiflaa
open Go.ChangeShapes Go.WideShapes Go.ChangeAt Go.RowKit
set_option linter.unusedVariables false
set_option linter.unusedSimpArgs false
/-- The block b of the heap holds these cells. -/
def HB (W : World) (b : Nat) (cs : Array Value) : Prop := ∃ T, W.heap[b]? = some (.cells cs T (0, 0))
/-- The same, with what reads and writes look at. -/
abbrev Bx (W : World) (b : Nat) (cs : Array Value) : Prop := HB W b cs ∧ (∀ i, W.cell? ⟨b, i, none⟩ = cs[i]?) ∧ (∀ i, W.frozen? ⟨b, i, none⟩ = false) ∧ b < W.heap.size
theorem HB.lt {W : World} {b : Nat} {cs : Array Value} (h : HB W b cs) : b < W.heap.size := by
  obtain ⟨T, h⟩ := h; exact (Array.getElem?_eq_some_iff.1 h).1
theorem Bx.of {W : World} {b : Nat} {cs : Array Value} (h : HB W b cs) : Bx W b cs := by
  refine ⟨h, ?_, ?_, h.lt⟩ <;> obtain ⟨T, h⟩ := h <;> intro i
  · simp [World.cell?, h]
  · simp [World.frozen?, h]
theorem HB.below {W W' : World} {b : Nat} {cs : Array Value} (h : HB W b cs) (hb : Below W.heap.size W W') : HB W' b cs := by
  have hl := h.lt
  obtain ⟨T, h⟩ := h; exact ⟨T, (hb.block b hl).trans h⟩
theorem Bx.below {W W' : World} {b : Nat} {cs : Array Value} (h : Bx W b cs) (hb : Below W.heap.size W W') : Bx W' b cs := Bx.of (h.1.below hb)
theorem HB.drew {W : World} {b : Nat} {cs : Array Value} (h : HB W b cs) : HB W.drew b cs := h
theorem HB.new (W : World) (cs : Array Value) (T : TypeId) {b : Nat} (hb : b = W.heap.size) : HB (W.alloc (.cells cs T (0, 0))) b cs := by
  subst hb
  refine ⟨T, ?_⟩
  show (W.heap.push _)[W.heap.size]? = _
  simp
theorem HB.old {W : World} {o : Obj} {b : Nat} {cs : Array Value} (hl : b < W.heap.size) (h : HB W b cs) : HB (W.alloc o) b cs := by
  obtain ⟨T, h⟩ := h; exact ⟨T, (Below.heap_alloc W o b hl).trans h⟩
theorem HB.setne {W : World} {a : Addr} {v : Value} {b : Nat} {cs : Array Value} (hne : b ≠ a.block) (h : HB W b cs) : HB (W.setCell a v) b cs := by
  obtain ⟨T, h⟩ := h; exact ⟨T, (Below.heap_setCell W a v b hne).trans h⟩
theorem HB.set {W : World} {i : Nat} {v : Value} {b : Nat} {cs cs' : Array Value} (h : HB W b cs) (e : cs.setIfInBounds i v = cs') : HB (W.setCell ⟨b, i, none⟩ v) b cs' := by
  obtain ⟨T, h⟩ := h
  refine ⟨T, ?_⟩
  obtain ⟨hlt, hk⟩ := Array.getElem?_eq_some_iff.1 h
  show (W.heap.modify b _)[b]? = _
  rw [Array.getElem?_eq_getElem (by rw [Array.size_modify]; exact hlt), Array.getElem_modify_self, hk, ← e]
  rfl
/-- From here on of the world only S is known. -/
theorem wp_gen {P : Program} {c : Code} {Q : Exit → Act → World → Prop} {a : Act} {w : World} (S : World → Prop) (hS : S w) (h : ∀ W, S W → c.wp P Q a W) : c.wp P Q a w := h w hS
theorem below_drewN {B n : Nat} {a w : World} (h : Below B a w) : Below B a (w.drewN n) := ⟨h.os, h.tape, h.output, h.size, h.block⟩
theorem below_more {w W W' : World} (h : Below w.heap.size w W) (hb : Below W.heap.size W W') : Below w.heap.size w W' := Below.trans h (Below.mono hb h.size)
/-- The block b holds k cells. -/
def HN (W : World) (b : Nat) (k : Nat) : Prop := ∃ cs, cs.size = k ∧ HB W b cs
theorem HN.drew {W : World} {b k : Nat} (h : HN W b k) : HN W.drew b k := h
theorem HN.lt {W : World} {b k : Nat} (h : HN W b k) : b < W.heap.size := by obtain ⟨_, _, h⟩ := h; exact h.lt
theorem HN.old {W : World} {o : Obj} {b k : Nat} (hl : b < W.heap.size) (h : HN W b k) : HN (W.alloc o) b k := by obtain ⟨cs, e, h⟩ := h; exact ⟨cs, e, h.old hl⟩
theorem HN.set {W : World} {i : Nat} {v : Value} {b k : Nat} (h : HN W b k) : HN (W.setCell ⟨b, i, none⟩ v) b k := by obtain ⟨cs, e, h⟩ := h; exact ⟨_, by simpa using e, h.set rfl⟩
theorem HN.setne {W : World} {a : Addr} {v : Value} {b k : Nat} (hne : b ≠ a.block) (h : HN W b k) : HN (W.setCell a v) b k := by obtain ⟨cs, e, h⟩ := h; exact ⟨cs, e, h.setne hne⟩
theorem HN.of4 {W : World} {b : Nat} {v0 v1 v2 v3 : Value} (h : HB W b #[v0, v1, v2, v3]) : HN W b 4 := ⟨_, rfl, h⟩
theorem HN.new4 (W : World) (T : TypeId) {b : Nat} {v0 v1 v2 v3 : Value} (hb : b = W.heap.size) : HN (W.alloc (.cells #[v0, v1, v2, v3] T (0, 0))) b 4 := ⟨_, rfl, HB.new W _ T hb⟩
theorem HB.over4 {W : World} {b : Nat} {v0 v1 v2 v3 : Value} (h : HN W b 4) : HB ((((W.setCell ⟨b, 0, none⟩ v0).setCell ⟨b, 1, none⟩ v1).setCell ⟨b, 2, none⟩ v2).setCell ⟨b, 3, none⟩ v3) b #[v0, v1, v2, v3] := by
  obtain ⟨cs, e, h⟩ := h
  obtain ⟨l, rfl⟩ : ∃ l : List Value, cs = l.toArray := ⟨cs.toList, by simp⟩
  rw [List.size_toArray] at e
  rcases l with _ | ⟨x0, l⟩
  · simp at e
  rw [List.length_cons] at e
  rcases l with _ | ⟨x1, l⟩
  · simp at e
  rw [List.length_cons] at e
  rcases l with _ | ⟨x2, l⟩
  · simp at e
  rw [List.length_cons] at e
  rcases l with _ | ⟨x3, l⟩
  · simp at e
  rcases l with _ | ⟨y, l⟩
  rotate_left
  · simp at e
  have h2 := (HB.set (i := 3) (v := v3) (HB.set (i := 2) (v := v2) (HB.set (i := 1) (v := v1) (HB.set (i := 0) (v := v0) h rfl) rfl) rfl) rfl)
  simpa only [List.setIfInBounds_toArray, List.set_cons_zero, List.set_cons_succ] using h2
theorem HN.of5 {W : World} {b : Nat} {v0 v1 v2 v3 v4 : Value} (h : HB W b #[v0, v1, v2, v3, v4]) : HN W b 5 := ⟨_, rfl, h⟩
theorem HN.new5 (W : World) (T : TypeId) {b : Nat} {v0 v1 v2 v3 v4 : Value} (hb : b = W.heap.size) : HN (W.alloc (.cells #[v0, v1, v2, v3, v4] T (0, 0))) b 5 := ⟨_, rfl, HB.new W _ T hb⟩
theorem HB.over5 {W : World} {b : Nat} {v0 v1 v2 v3 v4 : Value} (h : HN W b 5) : HB (((((W.setCell ⟨b, 0, none⟩ v0).setCell ⟨b, 1, none⟩ v1).setCell ⟨b, 2, none⟩ v2).setCell ⟨b, 3, none⟩ v3).setCell ⟨b, 4, none⟩ v4) b #[v0, v1, v2, v3, v4] := by
  obtain ⟨cs, e, h⟩ := h
  obtain ⟨l, rfl⟩ : ∃ l : List Value, cs = l.toArray := ⟨cs.toList, by simp⟩
  rw [List.size_toArray] at e
  rcases l with _ | ⟨x0, l⟩
  · simp at e
  rw [List.length_cons] at e
  rcases l with _ | ⟨x1, l⟩
  · simp at e
  rw [List.length_cons] at e
  rcases l with _ | ⟨x2, l⟩
  · simp at e
  rw [List.length_cons] at e
  rcases l with _ | ⟨x3, l⟩
  · simp at e
  rw [List.length_cons] at e
  rcases l with _ | ⟨x4, l⟩
  · simp at e
  rcases l with _ | ⟨y, l⟩
  rotate_left
  · simp at e
  have h2 := (HB.set (i := 4) (v := v4) (HB.set (i := 3) (v := v3) (HB.set (i := 2) (v := v2) (HB.set (i := 1) (v := v1) (HB.set (i := 0) (v := v0) h rfl) rfl) rfl) rfl) rfl)
  simpa only [List.setIfInBounds_toArray, List.set_cons_zero, List.set_cons_succ] using h2
theorem HN.below {W W' : World} {b k : Nat} (h : HN W b k) (hb : Below W.heap.size W W') : HN W' b k := by obtain ⟨cs, e, h⟩ := h; exact ⟨cs, e, h.below hb⟩
/-- What a cell holds, by a name of its own. -/
def cv (W : World) (b i : Nat) : Value := (W.cell? ⟨b, i, none⟩).getD undef
theorem HN.cell {W : World} {b k : Nat} (h : HN W b k) {i : Nat} (hi : i < k) : W.cell? ⟨b, i, none⟩ = some (cv W b i) := by
  obtain ⟨cs, e, h⟩ := h
  have h1 := (Bx.of h).2.1 i
  have h2 : cs[i]? = some cs[i] := by simp [e, hi]
  unfold cv
  rw [h1, h2]; rfl
theorem HN.froz {W : World} {b k : Nat} (h : HN W b k) (i : Nat) : W.frozen? ⟨b, i, none⟩ = false := by
  obtain ⟨cs, e, h⟩ := h; exact (Bx.of h).2.2.1 i
abbrev By1 (W : World) (b : Nat) : Prop := HN W b 1 ∧ W.cell? ⟨b, 0, none⟩ = some (cv W b 0) ∧ (∀ i, W.frozen? ⟨b, i, none⟩ = false) ∧ b < W.heap.size
theorem By1.of {W : World} {b : Nat} (h : HN W b 1) : By1 W b := ⟨h, h.cell (by decide), h.froz, h.lt⟩
abbrev By2 (W : World) (b : Nat) : Prop := HN W b 2 ∧ W.cell? ⟨b, 0, none⟩ = some (cv W b 0) ∧ W.cell? ⟨b, 1, none⟩ = some (cv W b 1) ∧ (∀ i, W.frozen? ⟨b, i, none⟩ = false) ∧ b < W.heap.size
theorem By2.of {W : World} {b : Nat} (h : HN W b 2) : By2 W b := ⟨h, h.cell (by decide), h.cell (by decide), h.froz, h.lt⟩
abbrev By4 (W : World) (b : Nat) : Prop := HN W b 4 ∧ W.cell? ⟨b, 0, none⟩ = some (cv W b 0) ∧ W.cell? ⟨b, 1, none⟩ = some (cv W b 1) ∧ W.cell? ⟨b, 2, none⟩ = some (cv W b 2) ∧ W.cell? ⟨b, 3, none⟩ = some (cv W b 3) ∧ (∀ i, W.frozen? ⟨b, i, none⟩ = false) ∧ b < W.heap.size
theorem By4.of {W : World} {b : Nat} (h : HN W b 4) : By4 W b := ⟨h, h.cell (by decide), h.cell (by decide), h.cell (by decide), h.cell (by decide), h.froz, h.lt⟩
abbrev By5 (W : World) (b : Nat) : Prop := HN W b 5 ∧ W.cell? ⟨b, 0, none⟩ = some (cv W b 0) ∧ W.cell? ⟨b, 1, none⟩ = some (cv W b 1) ∧ W.cell? ⟨b, 2, none⟩ = some (cv W b 2) ∧ W.cell? ⟨b, 3, none⟩ = some (cv W b 3) ∧ W.cell? ⟨b, 4, none⟩ = some (cv W b 4) ∧ (∀ i, W.frozen? ⟨b, i, none⟩ = false) ∧ b < W.heap.size
theorem By5.of {W : World} {b : Nat} (h : HN W b 5) : By5 W b := ⟨h, h.cell (by decide), h.cell (by decide), h.cell (by decide), h.cell (by decide), h.cell (by decide), h.froz, h.lt⟩
abbrev By6 (W : World) (b : Nat) : Prop := HN W b 6 ∧ W.cell? ⟨b, 0, none⟩ = some (cv W b 0) ∧ W.cell? ⟨b, 1, none⟩ = some (cv W b 1) ∧ W.cell? ⟨b, 2, none⟩ = some (cv W b 2) ∧ W.cell? ⟨b, 3, none⟩ = some (cv W b 3) ∧ W.cell? ⟨b, 4, none⟩ = some (cv W b 4) ∧ W.cell? ⟨b, 5, none⟩ = some (cv W b 5) ∧ (∀ i, W.frozen? ⟨b, i, none⟩ = false) ∧ b < W.heap.size
theorem By6.of {W : World} {b : Nat} (h : HN W b 6) : By6 W b := ⟨h, h.cell (by decide), h.cell (by decide), h.cell (by decide), h.cell (by decide), h.cell (by decide), h.cell (by decide), h.froz, h.lt⟩
abbrev By8 (W : World) (b : Nat) : Prop := HN W b 8 ∧ W.cell? ⟨b, 0, none⟩ = some (cv W b 0) ∧ W.cell? ⟨b, 1, none⟩ = some (cv W b 1) ∧ W.cell? ⟨b, 2, none⟩ = some (cv W b 2) ∧ W.cell? ⟨b, 3, none⟩ = some (cv W b 3) ∧ W.cell? ⟨b, 4, none⟩ = some (cv W b 4) ∧ W.cell? ⟨b, 5, none⟩ = some (cv W b 5) ∧ W.cell? ⟨b, 6, none⟩ = some (cv W b 6) ∧ W.cell? ⟨b, 7, none⟩ = some (cv W b 7) ∧ (∀ i, W.frozen? ⟨b, i, none⟩ = false) ∧ b < W.heap.size
theorem By8.of {W : World} {b : Nat} (h : HN W b 8) : By8 W b := ⟨h, h.cell (by decide), h.cell (by decide), h.cell (by decide), h.cell (by decide), h.cell (by decide), h.cell (by decide), h.cell (by decide), h.cell (by decide), h.froz, h.lt⟩
abbrev By10 (W : World) (b : Nat) : Prop := HN W b 10 ∧ W.cell? ⟨b, 0, none⟩ = some (cv W b 0) ∧ W.cell? ⟨b, 1, none⟩ = some (cv W b 1) ∧ W.cell? ⟨b, 2, none⟩ = some (cv W b 2) ∧ W.cell? ⟨b, 3, none⟩ = some (cv W b 3) ∧ W.cell? ⟨b, 4, none⟩ = some (cv W b 4) ∧ W.cell? ⟨b, 5, none⟩ = some (cv W b 5) ∧ W.cell? ⟨b, 6, none⟩ = some (cv W b 6) ∧ W.cell? ⟨b, 7, none⟩ = some (cv W b 7) ∧ W.cell? ⟨b, 8, none⟩ = some (cv W b 8) ∧ W.cell? ⟨b, 9, none⟩ = some (cv W b 9) ∧ (∀ i, W.frozen? ⟨b, i, none⟩ = false) ∧ b < W.heap.size
theorem By10.of {W : World} {b : Nat} (h : HN W b 10) : By10 W b := ⟨h, h.cell (by decide), h.cell (by decide), h.cell (by decide), h.cell (by decide), h.cell (by decide), h.cell (by decide), h.cell (by decide), h.cell (by decide), h.cell (by decide), h.cell (by decide), h.froz, h.lt⟩
abbrev By12 (W : World) (b : Nat) : Prop := HN W b 12 ∧ W.cell? ⟨b, 0, none⟩ = some (cv W b 0) ∧ W.cell? ⟨b, 1, none⟩ = some (cv W b 1) ∧ W.cell? ⟨b, 2, none⟩ = some (cv W b 2) ∧ W.cell? ⟨b, 3, none⟩ = some (cv W b 3) ∧ W.cell? ⟨b, 4, none⟩ = some (cv W b 4) ∧ W.cell? ⟨b, 5, none⟩ = some (cv W b 5) ∧ W.cell? ⟨b, 6, none⟩ = some (cv W b 6) ∧ W.cell? ⟨b, 7, none⟩ = some (cv W b 7) ∧ W.cell? ⟨b, 8, none⟩ = some (cv W b 8) ∧ W.cell? ⟨b, 9, none⟩ = some (cv W b 9) ∧ W.cell? ⟨b, 10, none⟩ = some (cv W b 10) ∧ W.cell? ⟨b, 11, none⟩ = some (cv W b 11) ∧ (∀ i, W.frozen? ⟨b, i, none⟩ = false) ∧ b < W.heap.size
theorem By12.of {W : World} {b : Nat} (h : HN W b 12) : By12 W b := ⟨h, h.cell (by decide), h.cell (by decide), h.cell (by decide), h.cell (by decide), h.cell (by decide), h.cell (by decide), h.cell (by decide), h.cell (by decide), h.cell (by decide), h.cell (by decide), h.cell (by decide), h.cell (by decide), h.froz, h.lt⟩
theorem keep2 {w W W' : World} {m : Nat} {n b1 b2 : Nat} {c1 c2 : Array Value} (h : Below w.heap.size w W ∧ n ≤ W.heap.size ∧ Bx W b1 c1 ∧ Bx W b2 c2) (hb : Below m W W') (hm : m = W.heap.size) : Below w.heap.size w W' ∧ n ≤ W'.heap.size ∧ Bx W' b1 c1 ∧ Bx W' b2 c2 := by
  subst hm
  obtain ⟨h0, hn, h1, h2⟩ := h
  exact ⟨below_more h0 hb, Nat.le_trans hn hb.size, h1.below hb, h2.below hb⟩
theorem keep3 {w W W' : World} {m : Nat} {n b1 b2 b3 : Nat} {c1 c2 c3 : Array Value} (h : Below w.heap.size w W ∧ n ≤ W.heap.size ∧ Bx W b1 c1 ∧ Bx W b2 c2 ∧ Bx W b3 c3) (hb : Below m W W') (hm : m = W.heap.size) : Below w.heap.size w W' ∧ n ≤ W'.heap.size ∧ Bx W' b1 c1 ∧ Bx W' b2 c2 ∧ Bx W' b3 c3 := by
  subst hm
  obtain ⟨h0, hn, h1, h2, h3⟩ := h
  exact ⟨below_more h0 hb, Nat.le_trans hn hb.size, h1.below hb, h2.below hb, h3.below hb⟩
theorem keep5 {w W W' : World} {m : Nat} {n b1 b2 b3 b4 b5 : Nat} {c1 c2 c3 c4 c5 : Array Value} (h : Below w.heap.size w W ∧ n ≤ W.heap.size ∧ Bx W b1 c1 ∧ Bx W b2 c2 ∧ Bx W b3 c3 ∧ Bx W b4 c4 ∧ Bx W b5 c5) (hb : Below m W W') (hm : m = W.heap.size) : Below w.heap.size w W' ∧ n ≤ W'.heap.size ∧ Bx W' b1 c1 ∧ Bx W' b2 c2 ∧ Bx W' b3 c3 ∧ Bx W' b4 c4 ∧ Bx W' b5 c5 := by
  subst hm
  obtain ⟨h0, hn, h1, h2, h3, h4, h5⟩ := h
  exact ⟨below_more h0 hb, Nat.le_trans hn hb.size, h1.below hb, h2.below hb, h3.below hb, h4.below hb, h5.below hb⟩
theorem keep6 {w W W' : World} {m : Nat} {n b1 b2 b3 b4 b5 b6 : Nat} {c1 c2 c3 c4 c5 c6 : Array Value} (h : Below w.heap.size w W ∧ n ≤ W.heap.size ∧ Bx W b1 c1 ∧ Bx W b2 c2 ∧ Bx W b3 c3 ∧ Bx W b4 c4 ∧ Bx W b5 c5 ∧ Bx W b6 c6) (hb : Below m W W') (hm : m = W.heap.size) : Below w.heap.size w W' ∧ n ≤ W'.heap.size ∧ Bx W' b1 c1 ∧ Bx W' b2 c2 ∧ Bx W' b3 c3 ∧ Bx W' b4 c4 ∧ Bx W' b5 c5 ∧ Bx W' b6 c6 := by
  subst hm
  obtain ⟨h0, hn, h1, h2, h3, h4, h5, h6⟩ := h
  exact ⟨below_more h0 hb, Nat.le_trans hn hb.size, h1.below hb, h2.below hb, h3.below hb, h4.below hb, h5.below hb, h6.below hb⟩
theorem keep7 {w W W' : World} {m : Nat} {n b1 b2 b3 b4 b5 b6 b7 : Nat} {c1 c2 c3 c4 c5 c6 c7 : Array Value} (h : Below w.heap.size w W ∧ n ≤ W.heap.size ∧ Bx W b1 c1 ∧ Bx W b2 c2 ∧ Bx W b3 c3 ∧ Bx W b4 c4 ∧ Bx W b5 c5 ∧ Bx W b6 c6 ∧ Bx W b7 c7) (hb : Below m W W') (hm : m = W.heap.size) : Below w.heap.size w W' ∧ n ≤ W'.heap.size ∧ Bx W' b1 c1 ∧ Bx W' b2 c2 ∧ Bx W' b3 c3 ∧ Bx W' b4 c4 ∧ Bx W' b5 c5 ∧ Bx W' b6 c6 ∧ Bx W' b7 c7 := by
  subst hm
  obtain ⟨h0, hn, h1, h2, h3, h4, h5, h6, h7⟩ := h
  exact ⟨below_more h0 hb, Nat.le_trans hn hb.size, h1.below hb, h2.below hb, h3.below hb, h4.below hb, h5.below hb, h6.below hb, h7.below hb⟩
end Go.Proofs.Ythcboomdkpiflaa

/- Slice: Slices of words: what is read, rows of the call's own, append, store. -/
namespace Go.Proofs.Ythcboomdkpiflaa
open Go.ChangeShapes Go.WideShapes Go.ChangeAt Go.RowKit
set_option linter.unusedVariables false
set_option linter.unusedSimpArgs false
/-- The slice v reads as these words. -/
def SlU (W : World) (v : Value) (ws : List Int) : Prop := ∃ (a : Option Addr) (len cap : Nat), v = .slice a len cap ∧ ws.length = len ∧ len ≤ cap ∧ cap ≤ 9223372036854775807 ∧ Ws ws ∧
  (0 < cap → ∃ b off, a = some ⟨b, off, none⟩ ∧ b < W.heap.size ∧ ∀ i, i < len → W.cell? ⟨b, off + i, none⟩ = some (.int .u64 (ws.getD i 0)))
theorem SlU.below {W W' : World} {v : Value} {ws : List Int} (h : SlU W v ws) (hb : Below W.heap.size W W') : SlU W' v ws := by
  obtain ⟨a, len, cap, e, h1, h2, h3, h4, h5⟩ := h
  refine ⟨a, len, cap, e, h1, h2, h3, h4, fun hc => ?_⟩
  obtain ⟨b, off, ea, hlt, hcell⟩ := h5 hc
  exact ⟨b, off, ea, Nat.lt_of_lt_of_le hlt hb.size, fun i hi => (hb.cell (p := ⟨b, off + i, none⟩) hlt).trans (hcell i hi)⟩
theorem SlU.alloc {W : World} {v : Value} {ws : List Int} (h : SlU W v ws) (o : Obj) : SlU (W.alloc o) v ws := h.below ((Below.refl _ _).alloc (Nat.le_refl _) _)
theorem SlU.drew {W : World} {v : Value} {ws : List Int} (h : SlU W v ws) : SlU W.drew v ws := h
theorem SlU.ws {W : World} {v : Value} {ws : List Int} (h : SlU W v ws) : Ws ws := by obtain ⟨_, _, _, _, _, _, _, h, _⟩ := h; exact h
def slLen : Value → Nat
  | .slice _ k _ => k
  | _ => 0
theorem SlU.canon {W : World} {a : Option Addr} {len cap : Nat} {ws : List Int} (h : SlU W (.slice a len cap) ws) : SlU W (.slice a (wl (VL ws)).length cap) (wl (VL ws)) := by
  obtain ⟨a', len', cap', e, h1, h2, h3, h4, h5⟩ := h
  cases e
  obtain ⟨k, hk, e, hz, hl⟩ := wl_VL h4
  have hlen : (wl (VL ws)).length = k := by rw [e, List.length_take]; omega
  refine ⟨a, _, cap, rfl, rfl, by omega, h3, wl_words _, fun hc => ?_⟩
  obtain ⟨b, off, ea, hlt, hcell⟩ := h5 hc
  refine ⟨b, off, ea, hlt, fun i hi => ?_⟩
  rw [hcell i (by omega), e, List.getD_eq_getElem?_getD, List.getD_eq_getElem?_getD, List.getElem?_take, if_pos (by omega)]
def uw (ws : List Int) : List Value := ws.map (Value.int .u64)
theorem uw_one (ws : List Int) : ∀ u ∈ uw ws, u.oneCell' = true := by
  intro u hu
  obtain ⟨x, _, rfl⟩ := List.mem_map.1 hu
  rfl
theorem uw_len (ws : List Int) : (uw ws).length = ws.length := by simp [uw]
theorem uw_at (ws : List Int) (j : Nat) (u : Value) (h : (uw ws)[j]? = some u) : j < ws.length ∧ u = .int .u64 (ws.getD j 0) := by
  unfold uw at h
  rw [List.getElem?_map] at h
  rcases Nat.lt_or_ge j ws.length with hj | hj
  · rw [List.getElem?_eq_getElem hj] at h
    refine ⟨hj, ?_⟩
    rw [List.getD_eq_getElem?_getD, List.getElem?_eq_getElem hj]
    simpa using h.symm
  · rw [List.getElem?_eq_none hj] at h; simp at h
theorem uw_get (ws : List Int) (j : Nat) (hj : j < ws.length) : (uw ws)[j]? = some (.int .u64 (ws.getD j 0)) := by
  unfold uw
  rw [List.getElem?_map, List.getElem?_eq_getElem hj, List.getD_eq_getElem?_getD, List.getElem?_eq_getElem hj]; rfl
/-- A row of the call's own that reads as these words. -/
def OwnU (w : World) (base : Nat) (v : Value) (ws : List Int) : Prop := w.ownsRow base 24 1 v ws.length (uw ws) ∧ Ws ws
theorem OwnU.form {w : World} {base : Nat} {v : Value} {ws : List Int} (h : OwnU w base v ws) : (v = .slice none 0 0 ∧ ws = []) ∨ ∃ g cap, v = .slice (some ⟨g, 0, none⟩) ws.length cap ∧ base ≤ g ∧ g < w.heap.size ∧ ws.length ≤ cap ∧ cap ≤ maxLen ∧
    (∀ j, j < ws.length → w.cell? ⟨g, j, none⟩ = some (.int .u64 (ws.getD j 0))) ∧ (∀ j, w.frozen? ⟨g, j, none⟩ = false) := by
  obtain ⟨h, hw⟩ := h
  have hlt := h.lt
  have h0 := h
  obtain ⟨h1, h2⟩ := h
  rcases h2 with ⟨rfl, hn⟩ | ⟨g, cap, cur, rfl, h3, h4, h5, h6, h7⟩
  · exact .inl ⟨rfl, List.length_eq_zero_iff.1 hn⟩
  · refine .inr ⟨g, cap, rfl, h3, (hlt g rfl).2, h5, h6, fun j hj => ?_, fun j => h0.frozenAt j⟩
    rw [h0.cellAt j (by omega)]; exact uw_get ws j hj
theorem OwnU.sl {w : World} {base : Nat} {v : Value} {ws : List Int} (h : OwnU w base v ws) : SlU w v ws := by
  rcases h.form with ⟨rfl, rfl⟩ | ⟨g, cap, rfl, h1, h2, h3, h4, h5, h6⟩
  · exact ⟨none, 0, 0, rfl, rfl, Nat.le_refl _, by decide, Ws.nil, fun h => absurd h (by omega)⟩
  · exact ⟨_, _, cap, rfl, rfl, h3, by simpa [maxLen] using h4, h.2, fun _ => ⟨g, 0, rfl, h2, fun i hi => by rw [Nat.zero_add]; exact h5 i hi⟩⟩
theorem OwnU.base {w : World} {b b' : Nat} {v : Value} {ws : List Int} (h : OwnU w b v ws) (hb : b' ≤ b) : OwnU w b' v ws := by
  obtain ⟨⟨h1, h2⟩, h3⟩ := h
  refine ⟨⟨h1, ?_⟩, h3⟩
  rcases h2 with h2 | ⟨g, cap, cur, h2, h4, h5⟩
  · exact .inl h2
  · exact .inr ⟨g, cap, cur, h2, Nat.le_trans hb h4, h5⟩
theorem OwnU.below {w w' : World} {b : Nat} {v : Value} {ws : List Int} (h : OwnU w b v ws) (hb : Below w.heap.size w w') : OwnU w' b v ws :=
  ⟨h.1.kept (row := none) ⟨hb.os, hb.tape, hb.output, hb.size, fun k hk _ => hb.block k hk⟩ (by cases v.ownBlock <;> simp), h.2⟩
theorem OwnU.drew {w : World} {b : Nat} {v : Value} {ws : List Int} (h : OwnU w b v ws) : OwnU w.drew b v ws := h
/-- A store into it. -/
theorem OwnU.stored {w : World} {base g cap : Nat} {ws : List Int} {n : Nat} (h : OwnU w base (.slice (some ⟨g, 0, none⟩) n cap) ws) (hn : n = ws.length) (j : Nat) (hj : j < ws.length) {x : Int} (hx : U64 x) :
    OwnU (w.setCell ⟨g, j, none⟩ (.int .u64 x)) base (.slice (some ⟨g, 0, none⟩) n cap) (ws.set j x) := by
  subst hn
  obtain ⟨h1, h2⟩ := h
  refine ⟨?_, h2.set hx j⟩
  have := h1.stored j (.int .u64 x)
  rw [List.length_set]
  have e : uw (ws.set j x) = (uw ws).set j (.int .u64 x) := by simp [uw, List.map_set]
  rw [e]
  exact this.1
theorem OwnU.lit (w : World) (cs : List Int) (h : Ws cs) (T : TypeId) (hT : T = 24) (hm : cs.length ≤ maxLen) : OwnU (w.alloc (.cells (uw cs).toArray T (0, 0))) w.heap.size (.slice (some ⟨w.heap.size, 0, none⟩) cs.length cs.length) cs := by
  subst hT
  have := World.ownsRow_lit (base := w.heap.size) (e := 24) (size := 1) w (uw cs).toArray cs.length (Nat.le_refl _) hm (by simp [uw])
  exact ⟨by simpa using this, h⟩
theorem OwnU.empty (w : World) (T : TypeId) (hT : T = 24) {b base : Nat} (hb : b = w.heap.size) (hle : base ≤ w.heap.size) : OwnU (w.alloc (.cells #[] T (0, 0))) base (.slice (some ⟨b, 0, none⟩) 0 0) [] := by
  subst hb
  exact (OwnU.lit w [] Ws.nil T hT (by decide)).base hle
section
variable {P : Program} (w : World)
theorem run_append_types {t t2 ty e e2 : TypeId} (ht : P.underlying t = some (.slice e)) (ht2 : P.underlying t2 = some (.slice e2)) (i : TypeInfo) (hi : P.info? e = some i) (A B : Option Addr) (n c m d : Nat) : (Builtin.append_ #[t, t2] ty #[.slice A n c, .slice B m d]).run P w = (Builtin.append_ #[t, t] ty #[.slice A n c, .slice B m d]).run P w := by
  simp [Builtin.append_, run_underlying ht, run_underlying ht2, sizeOf, typeInfo, hi, Builtin.lenOf]
theorem run_append_u (base : Nat) {t t2 ty e2 : TypeId} {i : TypeInfo} (ht : P.underlying t = some (.slice 24)) (ht2 : P.underlying t2 = some (.slice e2)) (hi : P.info? 24 = some i) (hz : i.zero = some (.int .u64 0)) (hsize : i.size = 1) (hby : i.bytes = 8)
    {v src : Value} {ws ms : List Int} (hown : OwnU w base v ws) (hsrc : SlU w src ms) (hsmall : ws.length + ms.length ≤ 4294967296) (hbase : base ≤ w.heap.size) :
    ∃ v' w', (Builtin.append_ #[t, t2] ty #[v, src]).run P w = .ok v' w' ∧ OwnU w' base v' (ws ++ ms) ∧ w.grownBy w' v.ownBlock ∧ (v'.ownBlock = v.ownBlock ∨ v'.ownBlock = some w.heap.size) := by
  obtain ⟨A, m, c, rfl, h1, h2, h3, h4, h5⟩ := hsrc
  obtain ⟨A0, n0, c0, hv⟩ : ∃ A0 n0 c0, v = .slice A0 n0 c0 := by
    rcases hown.form with ⟨rfl, _⟩ | ⟨g, cap, rfl, _⟩ <;> exact ⟨_, _, _, rfl⟩
  have hty : (Builtin.append_ #[t, t2] ty #[v, .slice A m c]).run P w = (Builtin.append_ #[t, t] ty #[v, .slice A m c]).run P w := by subst hv; exact run_append_types w ht ht2 i hi _ _ _ _ _ _
  rw [hty]
  clear hv hty
  have fin : ∀ {v' w'}, w'.ownsRow base 24 1 v' (ws.length + m) (uw ws ++ uw ms) → OwnU w' base v' (ws ++ ms) := fun h => ⟨by rw [List.length_append, h1]; simpa [uw] using h, hown.2.append h4⟩
  rcases Nat.eq_zero_or_pos c with h0 | h0
  · obtain rfl : m = 0 := by omega
    obtain rfl : ms = [] := List.length_eq_zero_iff.1 h1
    refine ⟨v, w, ?_, by simpa using hown, World.grownBy.refl w _, .inl rfl⟩
    rcases hown.1.2 with ⟨rfl, hn⟩ | ⟨g, cap, cur, rfl, _, _, hnc, _⟩
    · cases A <;> simp [Builtin.append_, run_underlying ht, sizeOf, typeInfo, hi, Builtin.lenOf, Builtin.firstCells, storeCells, loadCells, loadCellsFrom]
    · cases A <;> simp [Builtin.append_, run_underlying ht, sizeOf, typeInfo, hi, Builtin.lenOf, Builtin.firstCells, hnc, storeCells, loadCells, loadCellsFrom]
  · obtain ⟨b, off, rfl, hlt, hcell⟩ := h5 h0
    obtain ⟨v', w', hrun, h6, h7, _, h8⟩ := run_append_own_at (P := P) w base t ty 24 i (.int .u64 0) 1 8 ht hi hz hsize hby rfl (by decide) v ws.length (uw ws) hown.1 ⟨b, off, none⟩ m c (uw ms) (by rw [uw_len]; omega)
      (fun j u hu => by
        obtain ⟨hj, rfl⟩ := uw_at ms j u hu
        have e : (⟨b, off, none⟩ : Addr).add j = ⟨b, off + j, none⟩ := by unfold Addr.add; split <;> simp_all
        rw [e]; exact hcell j (by omega)) (uw_one ms) (by simp only [maxLen]; omega) (by omega) hbase
    exact ⟨v', w', hrun, fin h6, h7, h8⟩
theorem wpList_append_u {ops : Array Oper} {rest : List Oper} {o : Oper} {a : Act} {Q : Exit → Act → World → Prop} (hgd : o.guard = none) (s x : Operand) (t t2 : TypeId)
    (ho : o.op = .call { callee := .builtin .append, args := #[s, x], argTypes := #[t, t2] }) (base : Nat) {e2 : TypeId} {i : TypeInfo} (ht : P.underlying t = some (.slice 24)) (ht2 : P.underlying t2 = some (.slice e2)) (hi : P.info? 24 = some i) (hz : i.zero = some (.int .u64 0)) (hsize : i.size = 1) (hby : i.bytes = 8)
    {v src : Value} {ws ms : List Int} (hs : a.eval s = v) (hx : a.eval x = src) (hown : OwnU w base v ws) (hsrc : SlU w src ms) (hsmall : ws.length + ms.length ≤ 4294967296) (hbase : base ≤ w.heap.size)
    (h : ∀ v' w', OwnU w' base v' (ws ++ ms) → w.grownBy w' v.ownBlock → (v'.ownBlock = v.ownBlock ∨ v'.ownBlock = some w.heap.size) → wpList P ops Q rest (a.put o.dst v') w') : wpList P ops Q (o :: rest) a w := by
  refine wpList_plain hgd fun K hK => ?_
  obtain ⟨v', w', hrun, h2, h3, h4⟩ := run_append_u (P := P) (ty := o.type) w base ht ht2 hi hz hsize hby hown hsrc hsmall hbase
  unfold Oper.wp execOp
  simp only [ho, resolve, invoke, builtin, Sem.run_bind, Sem.run_pure, Result.andThen_ok, List.map_toArray, List.map_cons, List.map_nil, hs, hx, hrun]
  exact hK _ _ (h v' w' h2 h3 h4)
end
/-- A slice that lies at base or beyond. -/
def Fr (base : Nat) : Value → Prop
  | .slice a _ _ => ∀ b off, a = some ⟨b, off, none⟩ → base ≤ b
  | _ => False
theorem OwnU.fr {w : World} {base b' : Nat} {v : Value} {ws : List Int} (h : OwnU w base v ws) (hb : b' ≤ base) : Fr b' v := by
  rcases h.form with ⟨rfl, _⟩ | ⟨g, cap, rfl, h1, _⟩
  · intro b off e; cases e
  · intro b off e; cases e; omega
def SlF (W : World) (base : Nat) (v : Value) (ws : List Int) : Prop := SlU W v ws ∧ Fr base v
theorem SlF.canon {W : World} {base : Nat} {a : Option Addr} {len cap : Nat} {ws : List Int} (h : SlF W base (.slice a len cap) ws) : SlF W base (.slice a (wl (VL ws)).length cap) (wl (VL ws)) := ⟨h.1.canon, h.2⟩
end Go.Proofs.Ythcboomdkpiflaa

/- Drift: A region that draws its order, walked once: what reads or calls is taken in the text's order while the world may drift; then the boxes are made; then the stores follow. -/
namespace Go.Proofs.Ythcboomdkpiflaa
open Go Go.RowKit
set_option linter.unusedVariables false
set_option linter.unusedSimpArgs false
section
variable {P : Program} {ops : Array Oper} {Q : Exit → Act → World → Prop} {S : World → Prop} {row : Option Nat}
/-- What a step leaves. -/
def stepIs (P : Program) (R : Value → World → Prop) : Result Next → Prop
  | .ok (.value v) w' => R v w'
  | .ok .skip w' => R undef w'
  | .ok (.enter f args) w' => Calls P f args w' fun e w'' => ∃ v, e = .returned v ∧ R v w''
  | _ => False
/-- In every world that meets S the operation leaves v, and the world grows. -/
def YieldsD (P : Program) (ops : Array Oper) (S : World → Prop) (row : Option Nat) (o : Oper) (v : Value) (a : Act) : Prop :=
  (Region.wanted o (yielded ops a.tmps) = true ∧ ∀ w, S w → stepIs P (fun u w' => u = v ∧ w.grownBy w' row) ((execOp a.eval o).run P w)) ∨
  (Region.wanted o (yielded ops a.tmps) = false ∧ v = undef)
theorem YieldsD.of_same {o : Oper} {v : Value} {a a' : Act} (hy : YieldsD P ops S row o v a) (he : execOp a'.eval o = execOp a.eval o)
    (hw : Region.wanted o (yielded ops a'.tmps) = Region.wanted o (yielded ops a.tmps)) : YieldsD P ops S row o v a' := by
  unfold YieldsD at *
  rw [he, hw]
  exact hy
theorem YieldsD.wpOp {i : Nat} {o : Oper} {v : Value} {a : Act} (hi : ops[i]? = some o) (hy : YieldsD P ops S row o v a)
    {K : Act → World → Prop} {w : World} (hS : S w) (h : ∀ w', w.grownBy w' row → K (a.put o.dst v) w') : wpOp P ops Q i K a w := by
  unfold Go.wpOp
  simp only [hi]
  rcases hy with ⟨hw, hv⟩ | ⟨hw, rfl⟩
  · simp only [hw, if_true]
    refine .inl ?_
    unfold Oper.wp
    have hs := hv w hS
    generalize (execOp a.eval o).run P w = r at *
    cases r with
    | ok n w' =>
      cases n <;> simp only [stepIs, Oper.upon] at hs ⊢
      case value u => obtain ⟨rfl, hg⟩ := hs; exact h _ hg
      case skip => obtain ⟨e, hg⟩ := hs; rw [e]; exact h _ hg
      case enter f args => exact Calls.mono hs fun e w'' ⟨u, he, hu, hg⟩ => by subst he; subst hu; exact h _ hg
    | halt x w' => cases hs
  · simp only [hw, Bool.false_eq_true, if_false]
    exact h _ (grown_refl' _ _)
where grown_refl' (w : World) (row : Option Nat) : w.grownBy w row := ⟨rfl, rfl, rfl, Nat.le_refl _, fun _ _ _ => rfl⟩
/-- One operation, apart from another whose value is known. -/
theorem wpOp_putD {j : Nat} {oi oj : Oper} {v : Value} (hj : ops[j]? = some oj) (hap : oi.apart ops oj = true)
    (hsi : ∀ cs b, oi.op ≠ .select cs b) (hsj : ∀ cs b, oj.op ≠ .select cs b)
    (hQ : ∀ c (a : Act) d v w, Q (.panic c) (a.put d v) w → Q (.panic c) a w) {K : Act → World → Prop} {a : Act} {w : World}
    (hy : YieldsD P ops S row oi v a) (h : wpOp P ops Q j K (a.put oi.dst v) w) :
    wpOp P ops Q j (fun a' w' => YieldsD P ops S row oi v a' ∧ K (a'.put oi.dst v) w') a w := by
  obtain ⟨h1, h2, h3⟩ := Oper.apart_spec hap
  have keep : ∀ (a : Act), YieldsD P ops S row oi v a → ∀ u, YieldsD P ops S row oi v (a.put oj.dst u) := fun a hy u =>
    hy.of_same (execOp_put oi hsi a oj.dst u h3) (wanted_put oi a oj.dst u h3)
  have keepD : ∀ d, YieldsD P ops S row oi v { a with defers := d :: a.defers } := fun d => hy.of_same rfl rfl
  unfold wpOp at *
  simp only [hj] at *
  rw [wanted_put oj a oi.dst v h1] at h
  split
  · rename_i hw
    simp only [hw, if_true] at h
    rcases h with h | ⟨hasks, hlets⟩
    case inr => exact .inr ⟨by unfold Oper.asks at *; rw [execOp_put oj hsj a oi.dst v h1] at hasks; exact hasks, hlets⟩
    refine .inl ?_
    unfold Oper.wp at *
    rw [execOp_put oj hsj a oi.dst v h1] at h
    generalize (execOp a.eval oj).run P w = r at *
    cases r with
    | ok n w' =>
      cases n <;> simp only [Oper.upon] at h ⊢
      case value u => exact ⟨keep a hy u, by rw [← Act.put_comm a v u h2]; exact h⟩
      case skip => exact ⟨keep a hy _, by rw [← Act.put_comm a v undef h2]; exact h⟩
      case defer d =>
        refine ⟨keep _ (keepD d) _, ?_⟩
        rw [← Act.put_comm _ v undef h2, ← Act.put_defers]
        exact h
      case enter f args =>
        refine Calls.mono h fun e w'' he => ?_
        cases e with
        | returned u => exact ⟨keep a hy u, by rw [← Act.put_comm a v u h2]; exact he⟩
        | panicked c => exact hQ _ _ _ _ _ he
        | outgrown => exact he
      case row row args => exact Rows.mono h fun u w'' he => ⟨keep a hy u, by rw [← Act.put_comm a v u h2]; exact he⟩
    | halt x w' =>
      cases x <;> simp only [Oper.upon] at h ⊢
      case panic u => exact hQ _ _ _ _ _ h
  · rename_i hw
    simp only [hw] at h
    exact ⟨keep a hy _, by rw [← Act.put_comm a v undef h2]; exact h⟩
/-- The operations that make a box: number, slot, cells. -/
abbrev Boxes := List (Nat × Tmp × Array Value)
def Fit (n0 : Nat) (bs : List (Nat × Array Value)) (w : World) (b : Nat) (zs : Array Value) : Prop := n0 ≤ b ∧ (∀ p ∈ bs, p.1 ≠ b) ∧ HB w b zs
/-- Whatever order is picked for the first n, the world drifting in between; a box may be any block that fits; then L. -/
def wpDr (P : Program) (ops : Array Oper) (Q : Exit → Act → World → Prop) (S : World → Prop) (row : Option Nat) (n n0 g : Nat) (bx : Boxes) (L : Array Bool → Act → List (Nat × Array Value) → World → Prop) : Nat → Array Bool → Act → List (Nat × Array Value) → World → Prop
  | 0, listed, a, bs, w => ∀ w1, S w1 → w.grownBy w1 row → L listed a bs w1
  | f + 1, listed, a, bs, w => ∀ w1, S w1 → w.grownBy w1 row → Region.ready .any ops listed ≠ [] ∧
      ∀ i ∈ Region.ready .any ops listed, (n ≤ i → wpOp P ops Q i (wpAny P .any ops Q (f + g) (listed.setIfInBounds i true)) a w1) ∧
        (i < n → (∃ x ∈ bx, x.1 = i) → ∀ x ∈ bx, x.1 = i → ∀ b, Fit n0 bs w1 b x.2.2 → wpDr P ops Q S row n n0 g bx L f (listed.setIfInBounds i true) (a.put (some x.2.1) (.pointer (some ⟨b, 0, none⟩))) ((b, x.2.2) :: bs) w1) ∧
        (i < n → (¬∃ x ∈ bx, x.1 = i) → wpOp P ops Q i (fun a' w' => w1.grownBy w' row ∧ wpDr P ops Q S row n n0 g bx L f (listed.setIfInBounds i true) a' bs w') a w1)
theorem gt_refl (w : World) (row : Option Nat) : w.grownBy w row := ⟨rfl, rfl, rfl, Nat.le_refl _, fun _ _ _ => rfl⟩
theorem gt_trans {a b c : World} {row : Option Nat} (h : a.grownBy b row) (k : b.grownBy c row) : a.grownBy c row :=
  ⟨k.os.trans h.os, k.tape.trans h.tape, k.output.trans h.output, Nat.le_trans h.size k.size, fun i hi hn => (k.block i (Nat.lt_of_lt_of_le hi h.size) hn).trans (h.block i hi hn)⟩
theorem gt_alloc (w : World) (o : Obj) (row : Option Nat) : w.grownBy (w.alloc o) row :=
  ⟨rfl, rfl, rfl, by simp, fun i hi hne => Below.heap_alloc w o i hi⟩
theorem gt_below {a w : World} (h : Below a.heap.size a w) (row : Option Nat) : a.grownBy w row := ⟨h.os, h.tape, h.output, h.size, fun i hi _ => h.block i hi⟩
theorem below_gt {a w : World} (h : a.grownBy w none) : Below a.heap.size a w := (Below.refl _ a).grown h (Nat.le_refl _) (fun k e => by cases e)
theorem HB.gt {w w' : World} {b n0 : Nat} {cs : Array Value} (h : HB w b cs) (g : w.grownBy w' row) (hb : n0 ≤ b) (hrow : ∀ r, row = some r → r < n0) : HB w' b cs := by
  have hl := h.lt
  obtain ⟨T, h⟩ := h
  exact ⟨T, (g.block b hl (fun e => by have := hrow _ e.symm; omega)).trans h⟩
theorem Fit.gt {n0 b : Nat} {bs : List (Nat × Array Value)} {w w' : World} {zs : Array Value} (h : Fit n0 bs w b zs) (g : w.grownBy w' row) (hrow : ∀ r, row = some r → r < n0) : Fit n0 bs w' b zs := ⟨h.1, h.2.1, h.2.2.gt g h.1 hrow⟩
section
variable {n n0 g : Nat} {bx : Boxes} {L : Array Bool → Act → List (Nat × Array Value) → World → Prop}
theorem wpDr_drift : ∀ {f : Nat} {listed : Array Bool} {a : Act} {bs : List (Nat × Array Value)} {w w' : World}, wpDr P ops Q S row n n0 g bx L f listed a bs w → w.grownBy w' row → wpDr P ops Q S row n n0 g bx L f listed a bs w'
  | 0, _, _, _, _, _, h, g => fun w1 hs h1 => h w1 hs (gt_trans g h1)
  | _ + 1, _, _, _, _, _, h, g => fun w1 hs h1 => h w1 hs (gt_trans g h1)
end
/-- An operation that makes a box of these cells. -/
def Makes (P : Program) (o : Oper) (d : Tmp) (zs : Array Value) : Prop :=
  o.dst = some d ∧ o.guard = none ∧ o.after = #[] ∧ ∀ ρ w, ∃ T, (execOp ρ o).run P w = .ok (.value (.pointer (some ⟨w.heap.size, 0, none⟩))) (w.alloc (.cells zs T (0, 0)))
theorem wpAny_of_dr {n n0 g : Nat} {bx : Boxes} {L : Array Bool → Act → List (Nat × Array Value) → World → Prop} (hk : ∀ w w', S w → w.grownBy w' row → S w') (hn0 : ∀ w, S w → n0 ≤ w.heap.size) (hrow : ∀ r, row = some r → r < n0)
    (hbx : ∀ x ∈ bx, ∃ o, ops[x.1]? = some o ∧ Makes P o x.2.1 x.2.2) (hL : ∀ listed a bs w, L listed a bs w → wpAny P .any ops Q g listed a w) :
    ∀ (f : Nat) (listed : Array Bool) (a : Act) (bs : List (Nat × Array Value)) (w : World), S w → (∀ p ∈ bs, p.1 < w.heap.size) → wpDr P ops Q S row n n0 g bx L f listed a bs w → wpAny P .any ops Q (f + g) listed a w
  | 0, listed, a, bs, w, hs, hlt, h => by rw [Nat.zero_add]; exact hL _ _ _ _ (h w hs (gt_refl _ _))
  | f + 1, listed, a, bs, w, hs, hlt, h => by
    rw [show f + 1 + g = (f + g) + 1 by omega]
    have h' := h w hs (gt_refl _ _)
    refine ⟨fun h0 => absurd h0 h'.1, fun i hi => ?_⟩
    rcases Nat.lt_or_ge i n with hin | hin
    rotate_left
    · exact (h'.2 i hi).1 hin
    by_cases hx : ∃ x ∈ bx, x.1 = i
    · obtain ⟨x, hxm, rfl⟩ := hx
      obtain ⟨o, ho, hd, hg, haf, hrun⟩ := hbx x hxm
      obtain ⟨T, hrunT⟩ := hrun a.eval w
      unfold wpOp
      simp only [ho]
      have hw : Region.wanted o (yielded ops a.tmps) = true := by unfold Region.wanted; rw [hg]
      simp only [hw, if_true]
      refine .inl ?_
      unfold Oper.wp
      rw [hrunT]
      simp only [Oper.upon]
      have hs2 : S (w.alloc (.cells x.2.2 T (0, 0))) := hk _ _ hs (gt_alloc _ _ _)
      have hfit : Fit n0 bs (w.alloc (.cells x.2.2 T (0, 0))) w.heap.size x.2.2 := ⟨hn0 _ hs, fun p hp e => by have := hlt p hp; omega, HB.new _ _ _ rfl⟩
      have H := ((h _ hs2 (gt_alloc _ _ _)).2 x.1 hi).2.1 hin ⟨x, hxm, rfl⟩ x hxm rfl _ hfit
      rw [hd]
      refine wpAny_of_dr hk hn0 hrow hbx hL f _ _ _ _ hs2 (fun p hp => ?_) H
      rcases List.mem_cons.1 hp with rfl | hp
      · simp
      · have := hlt p hp; simp; omega
    · refine wpOp_mono (fun a' w' ⟨hg, hd⟩ => ?_) ((h'.2 i hi).2.2 hin hx)
      exact wpAny_of_dr hk hn0 hrow hbx hL f _ a' bs w' (hk _ _ hs hg) (fun p hp => Nat.lt_of_lt_of_le (hlt p hp) hg.size) hd
/-- The tail waits for the head, but for what is late (lp). -/
def Region.sinkL (ops : Array Oper) (n : Nat) (lp : List Nat) : Bool :=
  (List.range n).all fun i => lp.contains i || (List.range (n + 1)).any fun j => decide (i < j) && (!lp.contains j && Region.waitsFor .any ops j i)
def Region.tailB (ops : Array Oper) (n : Nat) (lp : List Nat) : Bool := (decide (n = ops.size) || (decide (n < ops.size) && (Region.sinkL ops n lp && Region.chainB .any ops n))) && lp.all fun i => decide (i < n)
theorem tail_waits_late {n : Nat} {lp : List Nat} {listed : Array Bool} (hs : Region.sinkL ops n lp = true) (hc : Region.chainB .any ops n = true) (hn : n < ops.size) (inv : HeadInv .any ops n listed) :
    ∀ (d i : Nat), n - i = d → i < n → i ∉ lp → listed.getD i true = false → ∀ t, n ≤ t → t ∉ Region.ready .any ops listed := by
  intro d
  induction d using Nat.strongRecOn with
  | _ d ih =>
    intro i hd hi hlp hun t ht hr
    obtain ⟨_, ot, hot, hall⟩ := mem_ready.1 hr
    have htlt : t < ops.size := (Array.getElem?_eq_some_iff.1 hot).1
    by_cases htn : t = n
    · subst htn
      have h1 := List.all_eq_true.1 hs i (List.mem_range.2 hi)
      simp only [Bool.or_eq_true, List.contains_iff_mem] at h1
      rcases h1 with h1 | h1
      · exact hlp h1
      obtain ⟨j, hj, hj2⟩ := List.any_eq_true.1 h1
      simp only [Bool.and_eq_true, decide_eq_true_eq, Bool.not_eq_true'] at hj2
      obtain ⟨hij, hjlp, hw⟩ := hj2
      have hjlp' : j ∉ lp := fun h => by
        have : lp.contains j = true := List.contains_iff_mem.2 h
        rw [hjlp] at this; cases this
      obtain ⟨oj, hoj, e, he, hb, hon⟩ := Region.waitsFor_spec hw
      have hjle : j ≤ t := by have := List.mem_range.1 hj; omega
      by_cases hjt : j = t
      · subst hjt
        have : oj = ot := Option.some.inj (hoj.symm.trans hot)
        subst this
        have h2 := hall e he hb
        rw [hon, getD_both hun] at h2
        cases h2
      · cases hl : listed.getD j false with
        | true =>
          have h2 := inv.closed j oj hoj hl e he hb
          rw [hon, getD_both hun] at h2
          cases h2
        | false =>
          have hjs : j < listed.size := by rw [inv.size]; omega
          exact ih (t - j) (by omega) j rfl (by omega) hjlp' (getD_in hjs hl) t (Nat.le_refl _) hr
    · have h1 := List.all_eq_true.1 hc t (List.mem_range.2 htlt)
      simp only [Bool.or_eq_true, decide_eq_true_eq] at h1
      rcases h1 with h1 | h1
      · omega
      · obtain ⟨o', ho', e, he, hb, hon⟩ := Region.waitsFor_spec h1
        have : o' = ot := Option.some.inj (ho'.symm.trans hot)
        subst this
        have h2 := hall e he hb
        rw [hon, getD_both (inv.tail (t - 1) (by omega) (by omega))] at h2
        cases h2
theorem tailB_spec {n : Nat} {lp : List Nat} (h : Region.tailB ops n lp = true) {listed : Array Bool} (inv : HeadInv .any ops n listed) {i : Nat} (hi : i < n) (hlp : i ∉ lp) (hun : listed.getD i true = false) :
    ∀ t ∈ Region.ready .any ops listed, t < n := by
  intro t ht
  rcases Nat.lt_or_ge t n with h1 | h1
  · exact h1
  · simp only [Region.tailB, Bool.or_eq_true, Bool.and_eq_true, decide_eq_true_eq] at h
    rcases h.1 with h | ⟨hn, hs, hc⟩
    · obtain ⟨_, ot, hot, _⟩ := mem_ready.1 ht
      have := (Array.getElem?_eq_some_iff.1 hot).1
      omega
    · exact absurd ht (tail_waits_late hs hc hn inv _ i rfl hi hlp hun t h1)
/-- What is known may be taken first. -/
theorem wpDr_first {n n0 g i : Nat} {lp : List Nat} {bx : Boxes} {oi : Oper} {v : Value} {L : Array Bool → Act → List (Nat × Array Value) → World → Prop} (hi : ops[i]? = some oi) (hsel : ∀ (j : Nat) (o : Oper) cs b, ops[j]? = some o → o.op ≠ .select cs b)
    (htl : Region.tailB ops n lp = true) (hin : i < n) (hilp : i ∉ lp) (hibx : ¬∃ x ∈ bx, x.1 = i) (hQ : ∀ c (a : Act) d v w, Q (.panic c) (a.put d v) w → Q (.panic c) a w) (hk : ∀ w w', S w → w.grownBy w' row → S w') (hrow : ∀ r, row = some r → r < n0)
    (hbx : ∀ x ∈ bx, ∃ o, ops[x.1]? = some o ∧ Makes P o x.2.1 x.2.2)
    (hdone : ∀ listed a bs w, L listed a bs w → ∀ j ∈ Region.ready .any ops listed, n ≤ j) :
    ∀ (f : Nat) (listed : Array Bool) (a : Act) (bs : List (Nat × Array Value)) (w : World), HeadInv .any ops n listed →
      (∀ j oj, ops[j]? = some oj → j ≠ i → listed.getD j true = false → (∀ e ∈ oj.after, Region.binds .any e = true → e.on ≠ i) → oi.apart ops oj = true) →
      i ∈ Region.ready .any ops listed → YieldsD P ops S row oi v a →
      wpDr P ops Q S row n n0 g bx L f (listed.setIfInBounds i true) (a.put oi.dst v) bs w → wpDr P ops Q S row n n0 g bx L (f + 1) listed a bs w := by
  intro f
  induction f with
  | zero =>
    intro listed a bs w inv _ hr hy H w1 hs1 ht1
    have hun := (mem_ready.1 hr).1
    refine ⟨fun h => (by rw [h] at hr; cases hr), fun j hj => ?_⟩
    have hjn : j < n := tailB_spec htl inv hin hilp hun j hj
    by_cases hji : j = i
    · subst hji; exact ⟨fun h => absurd h (by omega), fun _ h => absurd h hibx, fun _ _ => hy.wpOp hi hs1 fun w' hg => ⟨hg, wpDr_drift H (gt_trans ht1 hg)⟩⟩
    · have := hdone _ _ _ _ (H w1 hs1 ht1) j (ready_mono hj hji)
      omega
  | succ f ih =>
    intro listed a bs w inv hfree hr hy H w1 hs1 ht1
    have hun := (mem_ready.1 hr).1
    refine ⟨fun h => (by rw [h] at hr; cases hr), fun j hj => ?_⟩
    have hjn : j < n := tailB_spec htl inv hin hilp hun j hj
    by_cases hji : j = i
    · subst hji; exact ⟨fun h => absurd h (by omega), fun _ h => absurd h hibx, fun _ _ => hy.wpOp hi hs1 fun w' hg => ⟨hg, wpDr_drift H (gt_trans ht1 hg)⟩⟩
    · obtain ⟨_, hA, hB⟩ := (H w1 hs1 ht1).2 j (ready_mono hj hji)
      obtain ⟨hjun, oj, hoj, hall⟩ := mem_ready.1 hj
      have hnot : ∀ e ∈ oj.after, Region.binds .any e = true → e.on ≠ i := fun e he hb heq => by
        have h1 := hall e he hb
        rw [heq, getD_both hun] at h1
        cases h1
      have hap := hfree j oj hoj hji hjun hnot
      have hfree' : ∀ k ok, ops[k]? = some ok → k ≠ i → (listed.setIfInBounds j true).getD k true = false →
          (∀ e ∈ ok.after, Region.binds .any e = true → e.on ≠ i) → oi.apart ops ok = true := fun k ok hk hki hun hno => by
        refine hfree k ok hk hki ?_ hno
        by_cases hjk : j = k
        · subst hjk; exact hjun
        · rw [getD_set_ne true hjk] at hun; exact hun
      refine ⟨fun h => absurd h (by omega), fun _ hx x hxm hxj b hfit => ?_, fun _ hx => ?_⟩
      · have h1 := hA hjn hx x hxm hxj b hfit
        obtain ⟨o, ho, hmk⟩ := hbx x hxm
        rw [hxj] at ho
        obtain rfl : oj = o := Option.some.inj (hoj.symm.trans ho)
        obtain ⟨a1, a2, a3⟩ := Oper.apart_spec hap
        have hd := hmk.1
        refine ih (listed.setIfInBounds j true) _ _ w1 (inv.set hj hjn) hfree' (ready_mono hr (Ne.symm hji)) (hy.of_same (execOp_put oi (fun cs b => hsel i oi cs b hi) a _ _ (fun d e => a3 d (by rw [hd]; exact e))) (wanted_put oi a _ _ (fun d e => a3 d (by rw [hd]; exact e)))) ?_
        rw [Array.setIfInBounds_comm _ _ hji, ← Act.put_comm a v _ (fun d e e' => a2 d e (by rw [hd]; exact e'))]
        exact h1
      · have h2 := wpOp_putD hoj hap (fun cs b => hsel i oi cs b hi) (fun cs b => hsel j oj cs b hoj) hQ hy (hB hjn hx)
        refine wpOp_mono (fun a' w' h3 => ⟨h3.2.1, ih (listed.setIfInBounds j true) a' bs w' (inv.set hj hjn) hfree' (ready_mono hr (Ne.symm hji)) h3.1 ?_⟩) h2
        rw [Array.setIfInBounds_comm _ _ hji]
        exact h3.2.2
theorem yields_d {o : Oper} {v : Value} {a : Act} (h : Yields P ops o v a) : YieldsD P ops S row o v a :=
  h.imp (fun ⟨hw, hv⟩ => ⟨hw, fun w _ => by rw [hv w]; exact ⟨rfl, gt_refl _ _⟩⟩) id
/-- What is late may be taken first, too. -/
theorem wpDr_late {n n0 g i : Nat} {bx : Boxes} {oi : Oper} {v : Value} {L : Array Bool → Act → List (Nat × Array Value) → World → Prop} (hi : ops[i]? = some oi) (hsel : ∀ (j : Nat) (o : Oper) cs b, ops[j]? = some o → o.op ≠ .select cs b)
    (hin : i < n) (hibx : ¬∃ x ∈ bx, x.1 = i) (hQ : ∀ c (a : Act) d v w, Q (.panic c) (a.put d v) w → Q (.panic c) a w) (hk : ∀ w w', S w → w.grownBy w' row → S w')
    (hbx : ∀ x ∈ bx, ∃ o, ops[x.1]? = some o ∧ Makes P o x.2.1 x.2.2)
    (hdone : ∀ listed a bs w, L listed a bs w → ∀ j ∈ Region.ready .any ops listed, n ≤ j) (hLA : ∀ listed a bs w, L listed a bs w → wpAny P .any ops Q g listed a w) :
    ∀ (f : Nat) (listed : Array Bool) (a : Act) (bs : List (Nat × Array Value)) (w : World), HeadInv .any ops n listed →
      (∀ j oj, ops[j]? = some oj → j ≠ i → listed.getD j true = false → (∀ e ∈ oj.after, Region.binds .any e = true → e.on ≠ i) → oi.apart ops oj = true) →
      i ∈ Region.ready .any ops listed → Yields P ops oi v a →
      wpDr P ops Q S row n n0 g bx L f (listed.setIfInBounds i true) (a.put oi.dst v) bs w → wpDr P ops Q S row n n0 g bx L (f + 1) listed a bs w := by
  have hQ' : ∀ c (a : Act) w, Q (.panic c) (a.put oi.dst v) w → Q (.panic c) a w := fun c a w h => hQ c a _ _ w h
  intro f
  induction f with
  | zero =>
    intro listed a bs w inv hfree hr hy H w1 hs1 ht1
    have hun := (mem_ready.1 hr).1
    refine ⟨fun h => (by rw [h] at hr; cases hr), fun j hj => ?_⟩
    by_cases hji : j = i
    · subst hji; exact ⟨fun h => absurd h (by omega), fun _ h => absurd h hibx, fun _ _ => (yields_d (S := S) (row := row) hy).wpOp hi hs1 fun w' hg => ⟨hg, wpDr_drift H (gt_trans ht1 hg)⟩⟩
    have hj2 := ready_mono hj hji
    have hnj := hdone _ _ _ _ (H w1 hs1 ht1) j hj2
    refine ⟨fun _ => ?_, fun h => absurd h (by omega), fun h => absurd h (by omega)⟩
    have HA := hLA _ _ _ _ (H w1 hs1 ht1)
    obtain ⟨hjun, oj, hoj, hall⟩ := mem_ready.1 hj
    have hnot : ∀ e ∈ oj.after, Region.binds .any e = true → e.on ≠ i := fun e he hb heq => by
      have h1 := hall e he hb
      rw [heq, getD_both hun] at h1
      cases h1
    have hfree' : ∀ k ok, ops[k]? = some ok → k ≠ i → (listed.setIfInBounds j true).getD k true = false →
        (∀ e ∈ ok.after, Region.binds .any e = true → e.on ≠ i) → oi.apart ops ok = true := fun k ok hk hki hun hno => by
      refine hfree k ok hk hki ?_ hno
      by_cases hjk : j = k
      · subst hjk; exact hjun
      · rw [getD_set_ne true hjk] at hun; exact hun
    cases g with
    | zero => rw [HA.1] at hj2; cases hj2
    | succ g =>
      have h2 := wpOp_put hoj (hfree j oj hoj hji hjun hnot) (fun cs b => hsel i oi cs b hi) (fun cs b => hsel j oj cs b hoj) hQ' hy (HA.2 j hj2)
      rw [Nat.zero_add]
      refine wpOp_mono (fun a' w' h3 => wpAny_first hi hsel hQ' g _ a' w' hfree' (ready_mono hr (Ne.symm hji)) h3.1 ?_) h2
      rw [Array.setIfInBounds_comm _ _ hji]
      exact h3.2
  | succ f ih =>
    intro listed a bs w inv hfree hr hy H w1 hs1 ht1
    have hun := (mem_ready.1 hr).1
    refine ⟨fun h => (by rw [h] at hr; cases hr), fun j hj => ?_⟩
    by_cases hji : j = i
    · subst hji; exact ⟨fun h => absurd h (by omega), fun _ h => absurd h hibx, fun _ _ => (yields_d (S := S) (row := row) hy).wpOp hi hs1 fun w' hg => ⟨hg, wpDr_drift H (gt_trans ht1 hg)⟩⟩
    obtain ⟨hC, hA, hB⟩ := (H w1 hs1 ht1).2 j (ready_mono hj hji)
    obtain ⟨hjun, oj, hoj, hall⟩ := mem_ready.1 hj
    have hnot : ∀ e ∈ oj.after, Region.binds .any e = true → e.on ≠ i := fun e he hb heq => by
      have h1 := hall e he hb
      rw [heq, getD_both hun] at h1
      cases h1
    have hap := hfree j oj hoj hji hjun hnot
    have hfree' : ∀ k ok, ops[k]? = some ok → k ≠ i → (listed.setIfInBounds j true).getD k true = false →
        (∀ e ∈ ok.after, Region.binds .any e = true → e.on ≠ i) → oi.apart ops ok = true := fun k ok hk hki hun hno => by
      refine hfree k ok hk hki ?_ hno
      by_cases hjk : j = k
      · subst hjk; exact hjun
      · rw [getD_set_ne true hjk] at hun; exact hun
    refine ⟨fun hnj => ?_, fun hjn hx x hxm hxj b hfit => ?_, fun hjn hx => ?_⟩
    · have h2 := wpOp_put hoj hap (fun cs b => hsel i oi cs b hi) (fun cs b => hsel j oj cs b hoj) hQ' hy (hC hnj)
      refine wpOp_mono (fun a' w' h3 => ?_) h2
      rw [show f + 1 + g = (f + g) + 1 by omega]
      refine wpAny_first hi hsel hQ' _ _ a' w' hfree' (ready_mono hr (Ne.symm hji)) h3.1 ?_
      rw [Array.setIfInBounds_comm _ _ hji]
      exact h3.2
    · have h1 := hA hjn hx x hxm hxj b hfit
      obtain ⟨o, ho, hmk⟩ := hbx x hxm
      rw [hxj] at ho
      obtain rfl : oj = o := Option.some.inj (hoj.symm.trans ho)
      obtain ⟨a1, a2, a3⟩ := Oper.apart_spec hap
      have hd := hmk.1
      refine ih (listed.setIfInBounds j true) _ _ w1 (inv.set hj hjn) hfree' (ready_mono hr (Ne.symm hji)) (hy.of_same (execOp_put oi (fun cs b => hsel i oi cs b hi) a _ _ (fun d e => a3 d (by rw [hd]; exact e))) (wanted_put oi a _ _ (fun d e => a3 d (by rw [hd]; exact e)))) ?_
      rw [Array.setIfInBounds_comm _ _ hji, ← Act.put_comm a v _ (fun d e e' => a2 d e (by rw [hd]; exact e'))]
      exact h1
    · have h2 := wpOp_put hoj hap (fun cs b => hsel i oi cs b hi) (fun cs b => hsel j oj cs b hoj) hQ' hy (hB hjn hx)
      refine wpOp_mono (fun a' w' h3 => ⟨h3.2.1, ih (listed.setIfInBounds j true) a' bs w' (inv.set hj hjn) hfree' (ready_mono hr (Ne.symm hji)) h3.1 ?_⟩) h2
      rw [Array.setIfInBounds_comm _ _ hji]
      exact h3.2.2
/-- What is asked behind one operation: the world has grown, and K. -/
def Aft (row : Option Nat) (w : World) (K : Act → World → Prop) : Exit → Act → World → Prop
  | .normal, a, w' => w.grownBy w' row ∧ K a w'
  | _, _, _ => False
theorem not_letsOut_aft {w : World} {K : Act → World → Prop} : ¬LetsOut (Aft row w K) := fun ⟨_, _, h⟩ => h
theorem wpOp_of_aft {i : Nat} {o : Oper} (ho : ops[i]? = some o) (hs : ∀ cs b, o.op ≠ .select cs b) {d : Tmp} {u : Value} (h1 : d ∉ o.looksAt ops) (h2 : o.dst ≠ some d) {K : Act → World → Prop} {a : Act} {w w0 : World} (h : wpList P ops (Aft row w0 K) [o] a w) :
    wpList P ops (Aft row w0 fun a' w' => ∃ a'', a' = a''.put (some d) u ∧ K a'' w') [o] (a.put (some d) u) w := by
  have e1 : execOp (a.put (some d) u).eval o = execOp a.eval o := execOp_put o hs a (some d) u (fun d' e => by cases e; exact h1)
  have e2 : Region.wanted o (yielded ops (a.put (some d) u).tmps) = Region.wanted o (yielded ops a.tmps) := wanted_put o a (some d) u (fun d' e => by cases e; exact h1)
  have e3 : ∀ v, (a.put (some d) u).put o.dst v = (a.put o.dst v).put (some d) u := fun v => Act.put_comm a u v (fun d' e => by cases e; exact h2)
  unfold wpList at *
  rw [e2]
  split
  · rename_i hw
    rw [if_pos hw] at h
    rcases h with h | ⟨_, h⟩
    case inr => exact absurd h not_letsOut_aft
    refine .inl ?_
    unfold Oper.wp at *
    rw [e1]
    generalize (execOp a.eval o).run P w = r at *
    cases r with
    | ok n w' =>
      cases n <;> simp only [Oper.upon] at h ⊢
      case value v => exact ⟨h.1, _, e3 v, h.2⟩
      case skip => exact ⟨h.1, _, e3 _, h.2⟩
      case defer dd => exact ⟨h.1, _, Act.put_comm (x := some d) (y := o.dst) ({ a with defers := dd :: a.defers } : Act) u undef (fun d' e => by cases e; exact h2), h.2⟩
      case enter f args =>
        refine Calls.mono h fun e w'' he => ?_
        cases e with
        | returned v => exact ⟨he.1, _, e3 v, he.2⟩
        | panicked c => exact he
        | outgrown => exact absurd he not_letsOut_aft
      case row rr args => exact Rows.mono h fun v w'' he => ⟨he.1, _, e3 v, he.2⟩
    | halt x w' => cases x <;> simp only [Oper.upon] at h ⊢ <;> exact h
  · rename_i hw
    rw [if_neg hw] at h
    exact ⟨h.1, _, e3 _, h.2⟩
theorem wpOp_aft {i : Nat} {o : Oper} (ho : ops[i]? = some o) {K : Act → World → Prop} {a : Act} {w w0 : World} (h : wpList P ops (Aft row w0 K) [o] a w) : wpOp P ops Q i (fun a' w' => w0.grownBy w' row ∧ K a' w') a w := by
  unfold wpOp
  simp only [ho]
  unfold wpList at h
  split
  · rename_i hw
    rw [if_pos hw] at h
    rcases h with h | ⟨_, h⟩
    case inr => exact absurd h not_letsOut_aft
    refine .inl ?_
    unfold Oper.wp at *
    generalize (execOp a.eval o).run P w = r at *
    cases r with
    | ok n w' =>
      cases n <;> simp only [Oper.upon] at h ⊢ <;> first
        | exact h
        | exact Calls.mono h (fun e w'' he => by cases e <;> first | exact he | exact (he : False).elim | exact absurd he not_letsOut_aft)
        | exact Rows.mono h (fun _ _ he => he)
    | halt x w' => cases x <;> simp only [Oper.upon] at h ⊢ <;> first | exact h | exact (h : False).elim
  · rename_i hw
    rw [if_neg hw] at h
    exact h
/-- More is listed, and what is more are boxes. -/
def MoreBoxes (bx : Boxes) (listed listed' : Array Bool) : Prop := (∀ t, listed.getD t false = true → listed'.getD t false = true) ∧ (∀ t, listed'.getD t false = true → listed.getD t false = true ∨ ∃ x ∈ bx, x.1 = t)
theorem wpList_aft_mono {o : Oper} {K K' : Act → World → Prop} {a : Act} {w w0 : World} (hm : ∀ a w', w0.grownBy w' row → K a w' → K' a w') (h : wpList P ops (Aft row w0 K) [o] a w) : wpList P ops (Aft row w0 K') [o] a w := by
  unfold wpList at *
  split
  · rename_i hw
    rw [if_pos hw] at h
    rcases h with h | ⟨_, h⟩
    case inr => exact absurd h not_letsOut_aft
    refine .inl ?_
    unfold Oper.wp at *
    generalize (execOp a.eval o).run P w = r at *
    cases r with
    | ok n w' =>
      cases n <;> simp only [Oper.upon] at h ⊢ <;> first
        | exact ⟨h.1, hm _ _ h.1 h.2⟩
        | exact Calls.mono h (fun e w'' he => by cases e <;> first | exact ⟨he.1, hm _ _ he.1 he.2⟩ | exact (he : False).elim | exact absurd he not_letsOut_aft)
        | exact Rows.mono h (fun _ _ he => ⟨he.1, hm _ _ he.1 he.2⟩)
    | halt x w' => cases x <;> simp only [Oper.upon] at h ⊢ <;> exact h
  · rename_i hw
    rw [if_neg hw] at h
    exact ⟨h.1, hm _ _ h.1 h.2⟩
theorem wpDr_call {n n0 g i : Nat} {lp : List Nat} {bx : Boxes} {oi : Oper} {L : Array Bool → Act → List (Nat × Array Value) → World → Prop} (hi : ops[i]? = some oi) (hsel : ∀ cs b, oi.op ≠ .select cs b)
    (htl : Region.tailB ops n lp = true) (hin : i < n) (hilp : i ∉ lp) (hibx : ¬∃ x ∈ bx, x.1 = i) (hk : ∀ w w', S w → w.grownBy w' row → S w') (hrow : ∀ r, row = some r → r < n0)
    (hbx : ∀ x ∈ bx, x.2.1 ∉ oi.looksAt ops ∧ oi.dst ≠ some x.2.1) :
    ∀ (f : Nat) (rem : Boxes) (listed : Array Bool) (a : Act) (bs : List (Nat × Array Value)) (w : World), HeadInv .any ops n listed → i ∈ Region.ready .any ops listed →
      (∀ x ∈ bx, listed.getD x.1 true = false → x ∈ rem) → rem.length ≤ f →
      (∀ listed', MoreBoxes bx listed listed' → listed'.size = listed.size → ∀ k ∈ Region.ready .any ops listed', k = i ∨ ∃ x ∈ bx, x.1 = k) →
      (∀ w1, S w1 → w.grownBy w1 row → wpList P ops (Aft row w1 fun a' w' => wpDr P ops Q S row n n0 g bx L f (listed.setIfInBounds i true) a' bs w') [oi] a w1) →
      wpDr P ops Q S row n n0 g bx L (f + 1) listed a bs w := by
  intro f
  induction f with
  | zero =>
    intro rem listed a bs w inv hr hrem hlen hone H w1 hs1 ht1
    have hun := (mem_ready.1 hr).1
    refine ⟨fun h => (by rw [h] at hr; cases hr), fun j hj => ?_⟩
    have hjn : j < n := tailB_spec htl inv hin hilp hun j hj
    refine ⟨fun h => absurd h (by omega), fun _ _ y hym hyj b hfit => ?_, fun _ hx => ?_⟩
    · have h1 := hrem y hym (by rw [hyj]; exact (mem_ready.1 hj).1)
      rw [List.length_eq_zero_iff.1 (Nat.le_zero.1 hlen)] at h1
      cases h1
    · rcases hone listed ⟨fun _ h => h, fun _ h => .inl h⟩ rfl j hj with rfl | h
      · exact wpOp_aft hi (H w1 hs1 ht1)
      · exact absurd h hx
  | succ f ih =>
    intro rem listed a bs w inv hr hrem hlen hone H w1 hs1 ht1
    have hun := (mem_ready.1 hr).1
    refine ⟨fun h => (by rw [h] at hr; cases hr), fun j hj => ?_⟩
    have hjn : j < n := tailB_spec htl inv hin hilp hun j hj
    refine ⟨fun h => absurd h (by omega), fun _ _ y hym hyj b hfit => ?_, fun _ hx => ?_⟩
    · have hjun := (mem_ready.1 hj).1
      have hji : j ≠ i := fun e => hibx ⟨y, hym, hyj.trans e⟩
      have hjs : j < listed.size := by
        rcases Nat.lt_or_ge j listed.size with h | h
        · exact h
        · simp [Array.getElem?_eq_none h] at hjun
      have hmore : ∀ listed', MoreBoxes bx (listed.setIfInBounds j true) listed' → MoreBoxes bx listed listed' := fun listed' ⟨m1, m2⟩ =>
        ⟨fun t ht => m1 t (getD_set_true ht), fun t ht => by
          rcases m2 t ht with h | h
          · by_cases hjt : j = t
            · exact .inr ⟨y, hym, hyj.trans hjt⟩
            · rw [getD_set_ne false hjt] at h; exact .inl h
          · exact .inr h⟩
      refine ih (rem.filter fun z => z.1 != j) _ _ _ w1 (inv.set hj hjn) (ready_mono hr (Ne.symm hji)) (fun x hxm hxl => ?_) ?_ (fun listed' hm hsz => hone listed' (hmore listed' hm) (by rw [hsz]; simp)) ?_
      · have hne : j ≠ x.1 := fun e => by
          subst e; simp [hjs] at hxl
        rw [getD_set_ne true hne] at hxl
        exact List.mem_filter.2 ⟨hrem x hxm hxl, by simpa using fun e => hne e.symm⟩
      · have h1 := hrem y hym (by rw [hyj]; exact hjun)
        have : (rem.filter fun z => z.1 != j).length < rem.length := by
          rcases Nat.lt_or_ge (rem.filter fun z => z.1 != j).length rem.length with h | h
          · exact h
          · have := (List.length_filter_eq_length_iff.1 (Nat.le_antisymm (List.length_filter_le _ _) h)) y h1
            simp [hyj] at this
        omega
      · intro w2 hs2 ht2
        have h1 := wpOp_of_aft (i := i) (d := y.2.1) (u := .pointer (some ⟨b, 0, none⟩)) hi hsel (hbx y hym).1 (hbx y hym).2 (H w2 hs2 (gt_trans ht1 ht2))
        refine wpList_aft_mono (fun a' w' hg ⟨a'', e, hd⟩ => ?_) h1
        subst e
        have hj2 : j ∈ Region.ready .any ops (listed.setIfInBounds i true) := ready_mono hj hji
        have h2 := ((hd w' (hk _ _ hs2 hg) (gt_refl _ _)).2 j hj2).2.1 hjn ⟨y, hym, hyj⟩ y hym hyj b ((hfit.gt ht2 hrow).gt hg hrow)
        rw [Array.setIfInBounds_comm _ _ hji]
        exact h2
    · rcases hone listed ⟨fun _ h => h, fun _ h => .inl h⟩ rfl j hj with rfl | h
      · exact wpOp_aft hi (H w1 hs1 ht1)
      · exact absurd h hx
/-- The boxes that are still to be made, in whatever order: each at a block of its own. -/
def fa (S : World → Prop) (n0 : Nat) (K : Act → World → Prop) : Boxes → List (Nat × Array Value) → Act → Prop
  | [], bs, a => ∀ w, S w → (∀ p ∈ bs, HB w p.1 p.2) → K a w
  | (_, d, zs) :: rem, bs, a => ∀ b, n0 ≤ b → (∀ p ∈ bs, p.1 ≠ b) → fa S n0 K rem ((b, zs) :: bs) (a.put (some d) (.pointer (some ⟨b, 0, none⟩)))
theorem fa_mem {n0 : Nat} {K : Act → World → Prop} : ∀ {rem : Boxes} {bs bs' : List (Nat × Array Value)} {a : Act}, (∀ p, p ∈ bs ↔ p ∈ bs') → fa S n0 K rem bs a → fa S n0 K rem bs' a
  | [], bs, bs', a, he, h => fun w hs hb => h w hs fun p hp => hb p ((he p).1 hp)
  | (_, d, zs) :: rem, bs, bs', a, he, h => fun b hb hne => fa_mem (fun p => by simp [he p]) (h b hb fun p hp => hne p ((he p).1 hp))
theorem fa_swap {n0 : Nat} {K : Act → World → Prop} {x y : Nat × Tmp × Array Value} {rem : Boxes} {bs : List (Nat × Array Value)} {a : Act} (hne : x.2.1 ≠ y.2.1) (h : fa S n0 K (x :: y :: rem) bs a) : fa S n0 K (y :: x :: rem) bs a := by
  obtain ⟨i, d, zs⟩ := x
  obtain ⟨j, e, us⟩ := y
  intro b hb hbs c hc hcs
  have h1 := h c hc (fun p hp => hcs p (List.mem_cons_of_mem _ hp)) b hb (fun p hp => by
    rcases List.mem_cons.1 hp with rfl | hp
    · exact fun e => hcs (b, us) (List.mem_cons_self) e.symm
    · exact hbs p hp)
  rw [Act.put_comm _ _ _ (fun d' h' => by cases h'; exact fun h'' => hne (by cases h''; rfl))] at h1
  exact fa_mem (fun p => by simp only [List.mem_cons]; constructor <;> (rintro (h | h | h) <;> simp [h])) h1
theorem fa_front {n0 : Nat} {K : Act → World → Prop} {x : Nat × Tmp × Array Value} : ∀ {pre post : Boxes} {bs : List (Nat × Array Value)} {a : Act}, (∀ y ∈ pre, y.2.1 ≠ x.2.1) → fa S n0 K (pre ++ x :: post) bs a → fa S n0 K (x :: (pre ++ post)) bs a
  | [], _, _, _, _, h => h
  | y :: pre, post, bs, a, hne, h => by
    refine fa_swap (hne y List.mem_cons_self) ?_
    obtain ⟨j, e, us⟩ := y
    intro b hb hbs
    exact fa_front (fun z hz => hne z (List.mem_cons_of_mem _ hz)) (h b hb hbs)
theorem map_inj_of_nodup {α β : Type} {f : α → β} : ∀ {l : List α}, (l.map f).Nodup → ∀ {x y : α}, x ∈ l → y ∈ l → f x = f y → x = y
  | [], _, _, _, h, _, _ => by cases h
  | z :: l, hn, x, y, hx, hy, e => by
    rw [List.map_cons] at hn
    obtain ⟨h1, h2⟩ := List.nodup_cons.1 hn
    rcases List.mem_cons.1 hx with rfl | hx' <;> rcases List.mem_cons.1 hy with rfl | hy'
    · rfl
    · exact absurd (by rw [e]; exact List.mem_map_of_mem hy') h1
    · exact absurd (by rw [← e]; exact List.mem_map_of_mem hx') h1
    · exact map_inj_of_nodup h2 hx' hy' e
theorem wpDr_boxes {S' : World → Prop} {n n0 g : Nat} {lp : List Nat} {bx : Boxes} {L : Array Bool → Act → List (Nat × Array Value) → World → Prop} {K : Act → World → Prop} (htl : Region.tailB ops n lp = true) (hblp : ∀ x ∈ bx, x.1 ∉ lp) (hrow : ∀ r, row = some r → r < n0)
    (hbd : (bx.map (·.2.1)).Nodup) (hbi : (bx.map (·.1)).Nodup) (hbo : ∀ x ∈ bx, x.1 < n ∧ ∃ o, ops[x.1]? = some o ∧ o.after = #[])
    (hL : ∀ listed a bs w, HeadInv .any ops n listed → (∀ i, i < n → listed.getD i true = true) → K a w → L listed a bs w) :
    ∀ (k : Nat) (rem : Boxes) (listed : Array Bool) (a : Act) (bs : List (Nat × Array Value)) (w : World), rem.length = k → HeadInv .any ops n listed → rem.Sublist bx →
      (∀ x ∈ rem, listed.getD x.1 true = false) → (∀ i, i < n → listed.getD i true = false → ∃ x ∈ rem, x.1 = i) →
      (∀ p ∈ bs, n0 ≤ p.1 ∧ HB w p.1 p.2) → (∀ w1, S w1 → w.grownBy w1 row → S' w1) → fa S' n0 K rem bs a → wpDr P ops Q S row n n0 g bx L k listed a bs w := by
  intro k
  induction k with
  | zero =>
    intro rem listed a bs w hlen inv hsub hrem hall hbs hS' h w1 hs1 ht1
    obtain rfl : rem = [] := List.length_eq_zero_iff.1 hlen
    refine hL _ _ _ _ inv (fun i hi => ?_) (h w1 (hS' w1 hs1 ht1) fun p hp => (hbs p hp).2.gt ht1 (hbs p hp).1 hrow)
    cases e : listed.getD i true with
    | true => rfl
    | false => obtain ⟨x, hx, _⟩ := hall i hi e; cases hx
  | succ k ih =>
    intro rem listed a bs w hlen inv hsub hrem hall hbs hS' h w1 hs1 ht1
    have hready : ∀ x ∈ rem, x.1 ∈ Region.ready .any ops listed := fun x hx => by
      obtain ⟨_, o, ho, h0⟩ := hbo x (hsub.subset hx)
      refine mem_ready.2 ⟨hrem x hx, o, ho, fun e he => ?_⟩
      rw [h0] at he; simp at he
    have hne : ∃ x0, x0 ∈ rem := by
      cases rem with
      | nil => simp at hlen
      | cons x0 _ => exact ⟨x0, List.mem_cons_self⟩
    obtain ⟨x0, hx0⟩ := hne
    refine ⟨fun e => (by have := hready x0 hx0; rw [e] at this; cases this), fun i hi => ?_⟩
    have hun := (mem_ready.1 hi).1
    have hin : i < n := tailB_spec htl inv (hbo x0 (hsub.subset hx0)).1 (hblp x0 (hsub.subset hx0)) (hrem x0 hx0) i hi
    obtain ⟨x, hx, rfl⟩ := hall i hin hun
    refine ⟨fun h => absurd h (by omega), fun _ _ y hym hyj b hfit => ?_, fun _ hno => absurd ⟨x, hsub.subset hx, rfl⟩ hno⟩
    have hyx : y = x := by
      exact map_inj_of_nodup hbi hym (hsub.subset hx) hyj
    subst hyx
    obtain ⟨pre, post, hpp⟩ := List.append_of_mem hx
    have hnd := (hsub.map (·.2.1)).nodup hbd
    have hni := (hsub.map (·.1)).nodup hbi
    have hfr : fa S' n0 K (y :: (pre ++ post)) bs a := by
      refine fa_front (fun z hz => ?_) (by rw [← hpp]; exact h)
      rw [hpp] at hnd
      simp only [List.map_append, List.map_cons] at hnd
      exact (List.nodup_append.1 hnd).2.2 _ (List.mem_map_of_mem hz) _ List.mem_cons_self
    have hyne : ∀ z ∈ pre ++ post, z.1 ≠ y.1 := fun z hz => by
      rw [hpp] at hni
      simp only [List.map_append, List.map_cons] at hni
      have h1 := List.nodup_append.1 hni
      rcases List.mem_append.1 hz with hz | hz
      · exact h1.2.2 _ (List.mem_map_of_mem hz) _ List.mem_cons_self
      · exact fun e => (List.nodup_cons.1 h1.2.1).1 (by rw [← e]; exact List.mem_map_of_mem hz)
    have hperm : ∀ z, z ∈ pre ++ post → z ∈ rem := fun z hz => by
      rw [hpp]
      rcases List.mem_append.1 hz with hz | hz
      · exact List.mem_append_left _ hz
      · exact List.mem_append_right _ (List.mem_cons_of_mem _ hz)
    refine ih (pre ++ post) _ _ _ _ (by have := congrArg List.length hpp; simp at this hlen ⊢; omega) (inv.set hi hin) (((hpp ▸ (List.sublist_cons_self y post).append_left pre : (pre ++ post).Sublist rem)).trans hsub) (fun z hz => ?_) (fun j hj hjl => ?_) (fun p hp => ?_) (fun w2 hs2 ht2 => hS' w2 hs2 (gt_trans ht1 ht2)) ?_
    · rw [getD_set_ne true (Ne.symm (hyne z hz))]; exact hrem z (hperm z hz)
    · have hjne : y.1 ≠ j := fun e => by
        subst e
        have hlt : y.1 < listed.size := by
          rcases Nat.lt_or_ge y.1 listed.size with h | h
          · exact h
          · simp [Array.getElem?_eq_none h] at hun
        simp [hlt] at hjl
      rw [getD_set_ne true hjne] at hjl
      obtain ⟨z, hz, rfl⟩ := hall j hj hjl
      rw [hpp] at hz
      rcases List.mem_append.1 hz with hz | hz
      · exact ⟨z, List.mem_append_left _ hz, rfl⟩
      · rcases List.mem_cons.1 hz with rfl | hz
        · exact absurd rfl hjne
        · exact ⟨z, List.mem_append_right _ hz, rfl⟩
    · rcases List.mem_cons.1 hp with rfl | hp
      · exact ⟨hfit.1, hfit.2.2⟩
      · exact ⟨(hbs p hp).1, (hbs p hp).2.gt ht1 (hbs p hp).1 hrow⟩
    · exact hfr _ hfit.1 hfit.2.1
/-- The head's operations in the order given: what is known (0), a call whose result is not (1), what is late (2). -/
def dqL (P : Program) (ops : Array Oper) (S : World → Prop) (row : Option Nat) (K : Act → World → Prop) : List (Nat × Nat) → Act → World → Prop
  | [], a, w => K a w
  | (i, 0) :: l, a, w => ∃ o v, ops[i]? = some o ∧ YieldsD P ops S row o v a ∧ dqL P ops S row K l (a.put o.dst v) w
  | (i, 1) :: l, a, w => ∃ o, ops[i]? = some o ∧ ∀ w1, S w1 → w.grownBy w1 row → wpList P ops (Aft row w1 fun a' w' => dqL P ops S row K l a' w') [o] a w1
  | (i, _ + 2) :: l, a, w => ∃ o v, ops[i]? = some o ∧ Yields P ops o v a ∧ dqL P ops S row K l (a.put o.dst v) w
def Region.full : Boxes → Array Bool → Array Bool
  | [], listed => listed
  | x :: bx, listed => (Region.full bx listed).setIfInBounds x.1 true
def Region.dqB (ops : Array Oper) (n : Nat) (lp : List Nat) (bx : Boxes) : List (Nat × Nat) → Array Bool → Bool
  | [], _ => true
  | (i, k) :: l, listed => decide (i < n) && (lp.contains i == decide (2 ≤ k) && (!(bx.map (·.1)).contains i && ((Region.ready .any ops listed).contains i && ((if k ≠ 1 then Region.free .any ops listed i else
      ((Region.ready .any ops (Region.full bx listed)).all fun t => t == i || (bx.map (·.1)).contains t) && (match ops[i]? with | some o => bx.all fun x => !(o.looksAt ops).contains x.2.1 && o.dst != some x.2.1 | none => false)) &&
      Region.dqB ops n lp bx l (listed.setIfInBounds i true)))))
def Region.dqSet : List (Nat × Nat) → Array Bool → Array Bool
  | [], listed => listed
  | (i, _) :: l, listed => Region.dqSet l (listed.setIfInBounds i true)
theorem full_spec {bx : Boxes} {listed : Array Bool} : ∀ t, ((Region.full bx listed).getD t false = true → listed.getD t false = true ∨ ∃ x ∈ bx, x.1 = t) ∧ (listed.getD t false = true → (Region.full bx listed).getD t false = true) ∧ ((∃ x ∈ bx, x.1 = t) → t < listed.size → (Region.full bx listed).getD t false = true) ∧ (Region.full bx listed).size = listed.size := by
  induction bx with
  | nil => intro t; exact ⟨fun h => .inl h, id, (fun ⟨x, hx, _⟩ => by cases hx), rfl⟩
  | cons y bx ih =>
    intro t
    obtain ⟨h1, h2, h3, h4⟩ := ih t
    refine ⟨fun h => ?_, fun h => getD_set_true (h2 h), fun ⟨x, hx, e⟩ hlt => ?_, by simp [Region.full, h4]⟩
    · by_cases hyt : y.1 = t
      · exact .inr ⟨y, List.mem_cons_self, hyt⟩
      · rw [Region.full, getD_set_ne false hyt] at h
        rcases h1 h with h | ⟨x, hx, e⟩
        · exact .inl h
        · exact .inr ⟨x, List.mem_cons_of_mem _ hx, e⟩
    · by_cases hyt : y.1 = t
      · subst hyt; simp [Region.full, h4, hlt]
      · rcases List.mem_cons.1 hx with rfl | hx
        · exact absurd e hyt
        · exact getD_set_true (h3 ⟨x, hx, e⟩ hlt)
theorem dq_one {bx : Boxes} {listed : Array Bool} {i : Nat} (h : ((Region.ready .any ops (Region.full bx listed)).all fun t => t == i || (bx.map (·.1)).contains t) = true) :
    ∀ listed', MoreBoxes bx listed listed' → listed'.size = listed.size → ∀ k ∈ Region.ready .any ops listed', k = i ∨ ∃ x ∈ bx, x.1 = k := by
  intro listed' ⟨m1, m2⟩ hsz k hk
  by_cases hb : ∃ x ∈ bx, x.1 = k
  · exact .inr hb
  · obtain ⟨hkl, o, ho, hall⟩ := mem_ready.1 hk
    have hks : k < listed'.size := by
      rcases Nat.lt_or_ge k listed'.size with h | h
      · exact h
      · simp [Array.getElem?_eq_none h] at hkl
    obtain ⟨f1, f2, f3, f4⟩ := full_spec (bx := bx) (listed := listed) k
    have hkf : (Region.full bx listed).getD k true = false := by
      refine getD_in (by rw [f4, ← hsz]; exact hks) ?_
      cases e : (Region.full bx listed).getD k false with
      | false => rfl
      | true =>
        rcases f1 e with h | h
        · have := m1 k h
          rw [getD_both hkl] at this; cases this
        · exact absurd h hb
    have hr : k ∈ Region.ready .any ops (Region.full bx listed) := mem_ready.2 ⟨hkf, o, ho, fun e he hbnd => by
      have h1 := hall e he hbnd
      obtain ⟨_, g2, g3, _⟩ := full_spec (bx := bx) (listed := listed) e.on
      rcases m2 _ h1 with h | h
      · exact g2 h
      · refine g3 h ?_
        have : e.on < listed'.size := by
          rcases Nat.lt_or_ge e.on listed'.size with h | h
          · exact h
          · simp [Array.getElem?_eq_none h] at h1
        omega⟩
    have := List.all_eq_true.1 h k hr
    simp only [Bool.or_eq_true, beq_iff_eq, List.contains_iff_mem] at this
    rcases this with h | h
    · exact .inl h
    · obtain ⟨x, hx, e⟩ := List.mem_map.1 h
      exact .inr ⟨x, hx, e⟩
theorem wpDr_sched {n n0 g : Nat} {lp : List Nat} {bx : Boxes} {L : Array Bool → Act → List (Nat × Array Value) → World → Prop} {K : Act → World → Prop} (hsel : Region.noSelect ops = true) (htl : Region.tailB ops n lp = true) (hblp : ∀ x ∈ bx, x.1 ∉ lp) (hQ : ∀ c (a : Act) d v w, Q (.panic c) (a.put d v) w → Q (.panic c) a w)
    (hk : ∀ w w', S w → w.grownBy w' row → S w') (hrow : ∀ r, row = some r → r < n0)
    (hbd : (bx.map (·.2.1)).Nodup) (hbi : (bx.map (·.1)).Nodup) (hbo : ∀ x ∈ bx, x.1 < n ∧ ∃ o, ops[x.1]? = some o ∧ Makes P o x.2.1 x.2.2)
    (hdone : ∀ listed a bs w, L listed a bs w → ∀ j ∈ Region.ready .any ops listed, n ≤ j) (hLA : ∀ listed a bs w, L listed a bs w → wpAny P .any ops Q g listed a w)
    (hL : ∀ listed a bs w, HeadInv .any ops n listed → (∀ i, i < n → listed.getD i true = true) → K a w → L listed a bs w) :
    ∀ (sch : List (Nat × Nat)) (listed : Array Bool) (a : Act) (w : World), HeadInv .any ops n listed → Region.dqB ops n lp bx sch listed = true →
      ((∀ x ∈ bx, (Region.dqSet sch listed).getD x.1 true = false) ∧ (∀ i, i < n → (Region.dqSet sch listed).getD i true = false → ∃ x ∈ bx, x.1 = i)) →
      dqL P ops S row (fun a w => fa (fun w1 => S w1 ∧ w.grownBy w1 row) n0 K bx [] a) sch a w → wpDr P ops Q S row n n0 g bx L (sch.length + bx.length) listed a [] w
  | [], listed, a, w, inv, hB, hall, h => by
    rw [List.length_nil, Nat.zero_add]
    refine wpDr_boxes htl hblp hrow hbd hbi (fun x hx => ⟨(hbo x hx).1, ?_⟩) hL bx.length bx listed a [] w rfl inv (List.Sublist.refl _) hall.1 hall.2 (by simp) (fun w1 hs1 ht1 => ⟨hs1, ht1⟩) h
    obtain ⟨_, o, ho, hm⟩ := hbo x hx
    exact ⟨o, ho, hm.2.2.1⟩
  | (i, k) :: l, listed, a, w, inv, hB, hall, h => by
    simp only [Region.dqB, Bool.and_eq_true, decide_eq_true_eq, Bool.not_eq_true', beq_iff_eq] at hB
    obtain ⟨hin, hlpk, hnb, hr, hf, hB⟩ := hB
    have hr' : i ∈ Region.ready .any ops listed := by simpa using hr
    have hnb' : ¬∃ x ∈ bx, x.1 = i := fun ⟨x, hx, e⟩ => by
      have : (bx.map (·.1)).contains i = true := by rw [List.contains_iff_mem]; exact e ▸ List.mem_map_of_mem hx
      rw [hnb] at this; cases this
    have hnlp : k < 2 → i ∉ lp := fun hk2 h => by
      have h1 : lp.contains i = true := List.contains_iff_mem.2 h
      rw [h1] at hlpk
      have := of_decide_eq_true hlpk.symm
      omega
    rw [List.length_cons, show l.length + 1 + bx.length = (l.length + bx.length) + 1 by omega]
    match k, h, hf, hnlp with
    | 0, h, hf, hnlp =>
      obtain ⟨o, v, ho, hy, h⟩ := h
      exact wpDr_first ho (Region.noSelect_spec hsel) htl hin (hnlp (by decide)) hnb' hQ hk hrow (fun x hx => (hbo x hx).2) hdone _ listed a [] w inv (Region.free_spec ho (by simpa using hf)) hr' hy
        (wpDr_sched hsel htl hblp hQ hk hrow hbd hbi hbo hdone hLA hL l _ _ w (inv.set hr' hin) hB hall h)
    | 1, h, hf, hnlp =>
      obtain ⟨o, ho, h⟩ := h
      simp only [ne_eq, not_true_eq_false, if_false, Bool.and_eq_true, ho] at hf
      obtain ⟨hone, hap⟩ := hf
      refine wpDr_call ho (fun cs b => Region.noSelect_spec hsel i o cs b ho) htl hin (hnlp (by decide)) hnb' hk hrow (fun x hx => ?_) (l.length + bx.length) bx listed a [] w inv hr' (fun x hx _ => hx) (by omega) (dq_one hone) (fun w1 hs1 ht1 => ?_)
      · have := List.all_eq_true.1 hap x hx
        simp only [Bool.and_eq_true, Bool.not_eq_true', bne_iff_ne, ne_eq] at this
        refine ⟨fun hc => ?_, this.2⟩
        have h2 : (o.looksAt ops).contains x.2.1 = true := by rw [List.contains_iff_mem]; exact hc
        rw [this.1] at h2; cases h2
      · refine wpList_aft_mono (fun a' w' hg hd => ?_) (h w1 hs1 ht1)
        exact wpDr_sched hsel htl hblp hQ hk hrow hbd hbi hbo hdone hLA hL l _ _ w' (inv.set hr' hin) hB hall hd
    | k + 2, h, hf, hnlp =>
      obtain ⟨o, v, ho, hy, h⟩ := h
      exact wpDr_late ho (Region.noSelect_spec hsel) hin hnb' hQ hk (fun x hx => (hbo x hx).2) hdone hLA _ listed a [] w inv (Region.free_spec ho (by simpa using hf)) hr' hy
        (wpDr_sched hsel htl hblp hQ hk hrow hbd hbi hbo hdone hLA hL l _ _ w (inv.set hr' hin) hB hall h)
/-- All that the law asks of the region's form. -/
def Region.dqOk (ops : Array Oper) (n : Nat) (lp : List Nat) (sch : List (Nat × Nat)) (bx : Boxes) : Bool :=
  Region.noSelect ops && (Region.tailB ops n lp && ((bx.all fun x => !lp.contains x.1) && (decide (n ≤ ops.size) && (Region.dqB ops n lp bx sch (Array.replicate ops.size false) && (decide (sch.length + bx.length = n) &&
    (decide ((bx.map (·.2.1)).Nodup) && (decide ((bx.map (·.1)).Nodup) && ((bx.all fun x => decide (x.1 < n)) && (Region.seqB .any ops (ops.size - n) n (Array.replicate n true ++ Array.replicate (ops.size - n) false) &&
    ((bx.all fun x => !(Region.dqSet sch (Array.replicate ops.size false)).getD x.1 true) &&
    (List.range n).all fun i => (Region.dqSet sch (Array.replicate ops.size false)).getD i true || (bx.map (·.1)).contains i))))))))))
theorem wp_region_dq {id : Nat} {a : Act} {w : World} {l : List Oper} {n0 : Nat} (n : Nat) (lp : List Nat) (sch : List (Nat × Nat)) (bx : Boxes) (hm : P.follows .mixedOrders = true) (hB : Region.dqOk l.toArray n lp sch bx = true)
    (hQ : ∀ c (a : Act) d v w, Q (.panic c) (a.put d v) w → Q (.panic c) a w) (hS : S w.drew) (hk : ∀ w w', S w → w.grownBy w' row → S w') (hn0 : ∀ w, S w → n0 ≤ w.heap.size) (hrow : ∀ r, row = some r → r < n0)
    (hmk : ∀ x ∈ bx, ∃ o, l[x.1]? = some o ∧ Makes P o x.2.1 x.2.2)
    (h : dqL P l.toArray S row (fun a w => fa (fun w1 => S w1 ∧ w.grownBy w1 row) n0 (fun a w => wpList P l.toArray Q (l.drop n) a w) bx [] a) sch a w.drew) : (Code.region id l.toArray true).wp P Q a w := by
  simp only [Region.dqOk, Bool.and_eq_true, decide_eq_true_eq] at hB
  obtain ⟨hsel, htl, hblp, hnl, hdq, hlen, hbd, hbi, hbn, hseq, hb1, hb2⟩ := hB
  have hnl' : n ≤ l.length := by simpa using hnl
  have inv0 : HeadInv .any l.toArray n (Array.replicate l.toArray.size false) :=
    ⟨by simp, fun j oj _ hl => (by rw [getD_replicate_false] at hl; cases hl), fun t _ ht => getD_in (by simpa using ht) (getD_replicate_false _ _)⟩
  have hcanon : ∀ listed : Array Bool, HeadInv .any l.toArray n listed → (∀ i, i < n → listed.getD i true = true) → listed = Array.replicate n true ++ Array.replicate (l.toArray.size - n) false := fun listed inv hl => by
    refine Array.ext (by rw [inv.size]; simp; omega) fun i h1 h2 => ?_
    rw [Array.getElem_append]
    split
    · rename_i h3
      have := hl i (by simpa using h3)
      simp [h1] at this
      simp [this]
    · rename_i h3
      have := inv.tail i (by simpa using h3) (by rw [← inv.size]; exact h1)
      simp [h1] at this
      simp [this]
  have hbo : ∀ x ∈ bx, x.1 < n ∧ ∃ o, l.toArray[x.1]? = some o ∧ Makes P o x.2.1 x.2.2 := fun x hx => by
    obtain ⟨o, ho, hmo⟩ := hmk x hx
    exact ⟨by simpa using List.all_eq_true.1 hbn x hx, o, by simpa using ho, hmo⟩
  refine wp_region_any hm ?_
  have hblp' : ∀ x ∈ bx, x.1 ∉ lp := fun x hx hl => by
    have h1 := List.all_eq_true.1 hblp x hx
    have h2 : lp.contains x.1 = true := List.contains_iff_mem.2 hl
    rw [h2] at h1; cases h1
  have hLA : ∀ (listed : Array Bool) (a : Act) (bs : List (Nat × Array Value)) (w : World), (Region.seqB .any l.toArray (l.toArray.size - n) n listed = true ∧ wpList P l.toArray Q (l.drop n) a w) → wpAny P .any l.toArray Q (l.toArray.size - n) listed a w := fun listed a bs w hL => by
    have := wpAny_of_seq (md := .any) (Q' := Q) (l.drop n) n listed a w (fun j => by simp [List.getElem?_drop]) (by rw [show (l.drop n).length = l.toArray.size - n by simp]; exact hL.1) hL.2
    rwa [show (l.drop n).length = l.toArray.size - n by simp] at this
  have H := wpDr_sched (P := P) (g := l.toArray.size - n) (Q := Q) (S := S) (row := row) (n := n) (n0 := n0) (bx := bx) (K := fun a w => wpList P l.toArray Q (l.drop n) a w) (L := fun listed a bs w => Region.seqB .any l.toArray (l.toArray.size - n) n listed = true ∧ wpList P l.toArray Q (l.drop n) a w)
    hsel htl hblp' hQ hk hrow hbd hbi hbo (fun listed a bs w hL => seqB_ready hL.1) hLA (fun listed a bs w inv hl hK => ⟨by rw [hcanon listed inv hl]; exact hseq, hK⟩) sch _ a w.drew inv0 hdq
    ⟨fun x hx => by simpa using List.all_eq_true.1 hb1 x hx, fun i hi hl => by
      have := List.all_eq_true.1 hb2 i (List.mem_range.2 hi)
      simp only [Bool.or_eq_true, List.contains_iff_mem] at this
      rcases this with h | h
      · rw [hl] at h; cases h
      · obtain ⟨x, hx, e⟩ := List.mem_map.1 h
        exact ⟨x, hx, e⟩⟩ h
  rw [hlen] at H
  have A := wpAny_of_dr (g := l.toArray.size - n) hk hn0 hrow (fun x hx => (hbo x hx).2) hLA n _ a [] w.drew hS (by simp) H
  rw [show n + (l.toArray.size - n) = l.toArray.size by simp; omega] at A
  exact A
theorem dq_pure {K : Act → World → Prop} {i : Nat} {o : Oper} {l : List (Nat × Nat)} {a : Act} {w : World} {v : Value} (hi : ops[i]? = some o) (hw : Region.wanted o (yielded ops a.tmps) = true) (hv : ∀ w, S w → (execOp a.eval o).run P w = .ok (.value v) w) (h : dqL P ops S row K l (a.put o.dst v) w) : dqL P ops S row K ((i, 0) :: l) a w :=
  ⟨o, v, hi, .inl ⟨hw, fun w hs => by rw [hv w hs]; exact ⟨rfl, gt_refl _ _⟩⟩, h⟩
theorem dq_call {K : Act → World → Prop} {i : Nat} {o : Oper} {l : List (Nat × Nat)} {a : Act} {w : World} {v : Value} {f : FuncId} {args : Array Value} (hi : ops[i]? = some o) (hw : Region.wanted o (yielded ops a.tmps) = true) (hv : ∀ w, (execOp a.eval o).run P w = .ok (.enter f args) w)
    (hc : ∀ w, S w → Calls P f args w fun e w' => e = .returned v ∧ w.grownBy w' row) (h : dqL P ops S row K l (a.put o.dst v) w) : dqL P ops S row K ((i, 0) :: l) a w :=
  ⟨o, v, hi, .inl ⟨hw, fun w hs => by rw [hv w]; exact Calls.mono (hc w hs) fun e w' ⟨he, hg⟩ => ⟨v, he, rfl, hg⟩⟩, h⟩
/-- A call whose result is known by R alone. -/
theorem dq_ask {K : Act → World → Prop} {i : Nat} {o : Oper} {l : List (Nat × Nat)} {a : Act} {w : World} {f : FuncId} {args : Array Value} {R : Value → World → Prop} (hi : ops[i]? = some o) (hw : Region.wanted o (yielded ops a.tmps) = true) (hv : ∀ w, (execOp a.eval o).run P w = .ok (.enter f args) w)
    (hc : ∀ w1, S w1 → w.grownBy w1 row → Calls P f args w1 fun e w' => ∃ v, e = .returned v ∧ R v w' ∧ w1.grownBy w' row) (h : ∀ v w', S w' → w.grownBy w' row → R v w' → dqL P ops S row K l (a.put o.dst v) w') (hk : ∀ w w', S w → w.grownBy w' row → S w') : dqL P ops S row K ((i, 1) :: l) a w :=
  ⟨o, hi, fun w1 hs1 ht1 => by
    unfold wpList
    rw [if_pos hw]
    refine .inl ?_
    unfold Oper.wp
    rw [hv w1]
    simp only [Oper.upon]
    refine Calls.mono (hc w1 hs1 ht1) fun e w' ⟨v, he, hr, hg⟩ => ?_
    subst he
    exact ⟨hg, h v w' (hk _ _ hs1 hg) (gt_trans ht1 hg) hr⟩⟩
theorem dq_late {K : Act → World → Prop} {i : Nat} {o : Oper} {l : List (Nat × Nat)} {a : Act} {w : World} {v : Value} (hi : ops[i]? = some o) (hw : Region.wanted o (yielded ops a.tmps) = true) (hv : ∀ w, (execOp a.eval o).run P w = .ok (.value v) w) (h : dqL P ops S row K l (a.put o.dst v) w) : dqL P ops S row K ((i, 2) :: l) a w :=
  ⟨o, v, hi, .inl ⟨hw, hv⟩, h⟩
theorem dq_nil {K : Act → World → Prop} {a : Act} {w : World} (h : K a w) : dqL P ops S row K [] a w := h
theorem calls_gt {f : FuncId} {args : Array Value} {w : World} {v : Value} (h : Calls P f args w fun e w' => e = .returned v ∧ Below w.heap.size w w') : Calls P f args w fun e w' => e = .returned v ∧ w.grownBy w' row :=
  h.mono fun _ _ ⟨he, hb⟩ => ⟨he, gt_below hb _⟩
end
theorem ret_w {z z' : Value} {x x' : Bool} (h : z = z') (h2 : x = x') : Value.tuple #[z, .bool x] = Value.tuple #[z', .bool x'] := by rw [h, h2]
end Go.Proofs.Ythcboomdkpiflaa

/- RefA: The reference of wide: lists of words. What its functions return, as exact integers. -/
namespace Go.Proofs.Ythcboomdkpiflaa
open Go.ChangeShapes Go.WideShapes Go.ChangeAt Go.RowKit
set_option linter.unusedVariables false
set_option linter.unusedSimpArgs false
theorem trim_done {a : Option Addr} {cap k : Nat} {ws : List Int} (h4 : Ws ws) (hk : k ≤ ws.length) (hz : ∀ j, k ≤ j → ws.getD j 0 = 0) (hl : 0 < k → ws.getD (k - 1) 0 ≠ 0) :
    Ending.returned (.slice a k cap) = Ending.returned (.slice a (wl (VL ws)).length cap) := by rw [(wl_take h4 hk hz hl).2]
theorem rtrim_any (a : Option Addr) (len cap : Nat) (ws : List Int) (w : World) (h : SlU w (.slice a len cap) ws) :
    Calls Try.prog 65 #[.slice a len cap] w fun e w' => e = .returned (.slice a (wl (VL ws)).length cap) ∧ w = w' := by
  obtain ⟨a', len', cap', e, h1, h2, h3, h4, h5⟩ := h
  cases e
  have H5 := hid h5
  have H4 := hid h4
  clear h5 h4
  go_enter Try.func65, Try.ntmps65
  go_wp2
  go_loop [0] (fun s => ∃ k : Nat, k ≤ len ∧ s = .slice a k cap ∧ Hid (∀ j, k ≤ j → ws.getD j 0 = 0)) (fun s => slLen s)
  case atStart => exact ⟨len, Nat.le_refl _, rfl, hid (fun j hj => by rw [List.getD_eq_getElem?_getD, List.getElem?_eq_none (by omega)]; rfl)⟩
  case round =>
    obtain ⟨k, hk, rfl, hz⟩ := hrel
    rcases Nat.eq_zero_or_pos k with h0 | h0
    · subst h0
      go_wp2
      go_ret
      exact ⟨trim_done H4.out (by omega) hz.out (by omega), rfl⟩
    · obtain ⟨m, rfl⟩ : ∃ m, k = m + 1 := ⟨k - 1, by omega⟩
      obtain ⟨b, off, rfl, hlt, hcell⟩ := H5.out (by omega)
      have hc := hcell m (by omega)
      clear hcell
      have e1 : ((m + 1 : Nat) : Int) - 1 = (m : Int) := by omega
      by_cases hz0 : ws.getD m 0 = 0
      · rw [hz0] at hc
        have HZ0 := hid hz0
        clear hz0
        go_wp2
        all_goals
          go_round
          case rel => exact ⟨m, by omega, by simp, hid (fun j hj => (Nat.eq_or_lt_of_le hj).elim (fun e => e ▸ HZ0.out) (fun e => hz.out j e))⟩
          case measure => simp [slLen]
      · generalize hx : ws.getD m 0 = x at *
        have T : (x == 0) = false := beq_eq_false_iff_ne.2 hz0
        have HX := hid (And.intro hx hz0)
        clear hx hz0
        go_wp2
        go_ret
        exact ⟨trim_done H4.out (by omega) hz.out (fun _ => by simp only [Nat.add_sub_cancel]; rw [HX.out.1]; exact HX.out.2), rfl⟩
theorem info_u : ∃ i, Try.prog.info? 24 = some i ∧ i.zero = some (.int .u64 0) ∧ i.size = 1 ∧ i.bytes = 8 := by
  obtain ⟨i0, hi, hz0, hz1, hz2⟩ := info_parts info_u64
  exact ⟨i0, hi, hz0, hz1, hz2⟩
/-- A slice in new memory that is this number in canonical words. -/
def MagP (w : World) (m : Int) (e : Ending) (w' : World) : Prop := ∃ v, e = .returned v ∧ SlF w' w.heap.size v (wl m) ∧ Below w.heap.size w w'
theorem rof_any (n : Bool) (a b c d : Int) (ha : U64 a) (hb : U64 b) (hc : U64 c) (hd : U64 d) (w : World) :
    Calls Try.prog 49 #[WV n a b c d] w (MagP w (MV a b c d)) := by
  obtain ⟨i0, hi, hz0, hz1, hz2⟩ := info_u
  have hw : Ws [a, b, c, d] := by
    intro x hx
    simp at hx
    rcases hx with rfl | rfl | rfl | rfl <;> assumption
  have HW := hid hw
  clear hw ha hb hc hd
  go_enter Try.func49, Try.ntmps49
  go_wp2_with (at_builtin; (refine wpList_append_u (ws := []) (ms := [a, b, c, d]) (v := .slice (some ⟨w.heap.size + 1, 0, none⟩) 0 0) (src := .slice (some ⟨w.heap.size, 1, none⟩) 4 4) _ rfl (.tmp 3) (.tmp 5) 73 66 rfl w.heap.size Try.underlying73 Try.underlying66 hi hz0 hz1 hz2 rfl rfl ?own ?src ?small ?base ?_); rotate_right; intro v1 w1 hown hg hat)
  case own =>
    exact OwnU.empty (w.alloc _) _ rfl (by simp) (by simp)
  case src =>
    refine ⟨_, 4, 4, rfl, rfl, Nat.le_refl _, by decide, HW.out, fun _ => ⟨w.heap.size, 1, rfl, by go_size, fun i hi => ?_⟩⟩
    match i, hi with
    | 0, _ => simp [go_sem]
    | 1, _ => simp [go_sem]
    | 2, _ => simp [go_sem]
    | 3, _ => simp [go_sem]
  case small => simp
  case base => go_size
  have hb1 : Below w.heap.size w w1 := (((Below.refl _ w).alloc (Nat.le_refl _) _).alloc (by simp) _).grown hg (by simp; omega) (fun k e => by simp [Value.ownBlock] at e; omega)
  clear hg hat HW
  simp only [List.nil_append] at hown
  rcases hown.form with ⟨rfl, h0⟩ | ⟨g, cap, rfl, h1, h2, h3, h4, h5, h6⟩
  · simp at h0
  have hs := hown.sl
  have e : VL [a, b, c, d] = MV a b c d := VL4 a b c d
  clear h1 h2 h3 h4 h5 h6
  have H := hid (And.intro hs (And.intro hb1 e))
  have HC := hid (SlF.canon (base := w.heap.size) ⟨hs, hown.fr (by first | exact Nat.le_refl _ | (simp; done) | (simp; omega))⟩)
  clear hown hb1 e
  (repeat' (first | (go_big_may; (first | (go_at_call 65; refine (rtrim_any _ _ _ _ _ hs).mono ?_; rintro e w' ⟨rfl, rfl⟩))) | go_values | go_skip | go_guarded | go_step | go_upon | (simp only [Int.not_lt, Int.not_le] at *; go_simp) | (go_values <;> (try go_simp)) | (go_ite <;> go_prune <;> (try go_simp)) | (split <;> (first | (rename_i hx; exact (hx _ rfl).elim) | go_prune))))
  go_ret
  obtain ⟨hs, hb1, e⟩ := H.out
  have h2 := HC.out
  refine ⟨.slice (some ⟨g, 0, none⟩) (wl (VL [a, b, c, d])).length cap, rfl, ?_, hb1⟩
  rw [e] at h2 ⊢
  exact h2
/-- The cells of a Wide with these words. -/
def mcells (nb : Bool) (l : List Int) : Array Value := #[.bool nb, .int .u64 (l.getD 0 0), .int .u64 (l.getD 1 0), .int .u64 (l.getD 2 0), .int .u64 (l.getD 3 0)]
theorem mcells_nil (nb : Bool) : mcells nb [] = #[.bool nb, .int .u64 0, .int .u64 0, .int .u64 0, .int .u64 0] := rfl
theorem getD_takeD (ws : List Int) (i j : Nat) : (ws.take i).getD j 0 = if j < i then ws.getD j 0 else 0 := by
  rw [List.getD_eq_getElem?_getD, List.getD_eq_getElem?_getD, List.getElem?_take]
  split <;> rfl
theorem mcells_at (nb : Bool) (ws : List Int) {i : Nat} (h : i < 4) : (mcells nb (ws.take i))[1 + i]? = some (.int .u64 0) := by
  unfold mcells
  simp only [getD_takeD]
  match i, h with
  | 0, _ => simp
  | 1, _ => simp
  | 2, _ => simp
  | 3, _ => simp
theorem mcells_set (nb : Bool) (ws : List Int) {i : Nat} (h : i < 4) : (mcells nb (ws.take i)).setIfInBounds (1 + i) (.int .u64 (ws.getD i 0)) = mcells nb (ws.take (i + 1)) := by
  unfold mcells
  simp only [getD_takeD]
  match i, h with
  | 0, _ => simp
  | 1, _ => simp
  | 2, _ => simp
  | 3, _ => simp
theorem cn_pos (neg : Bool) {m : Int} (h0 : 0 ≤ m) (h : up4 m = 0) : cn neg (lb0 m) (lb1 m) (lb2 m) (lb3 m) = (neg && decide (0 < (wl m).length)) := by
  have e : mz (lb0 m) (lb1 m) (lb2 m) (lb3 m) = !decide (0 < (wl m).length) := by
    have h1 := mz_iff (lb0_in m) (lb1_in m) (lb2_in m) (lb3_in m)
    rw [mv_lb4 h] at h1
    by_cases hm : m = 0
    · rw [h1.2 hm, hm, wl_nil (Int.le_refl _)]; rfl
    · have h2 : (wl m).length ≠ 0 := fun h => wl_ne (show 0 < m by omega) (List.length_eq_zero_iff.1 h)
      have h3 : mz (lb0 m) (lb1 m) (lb2 m) (lb3 m) = false := by
        cases hz : mz (lb0 m) (lb1 m) (lb2 m) (lb3 m)
        · rfl
        · exact absurd (h1.1 hz) hm
      rw [h3]
      have h4 : decide (0 < (wl m).length) = true := dT (by omega)
      rw [h4]; rfl
  unfold cn; rw [e, Bool.not_not]
theorem we_mcells (neg : Bool) {m : Int} (h0 : 0 ≤ m) (h : up4 m = 0) : Value.agg (mcells (neg && decide (0 < (wl m).length)) (wl m)) = WE (sv neg m) := by
  obtain ⟨e0, e1, e2, e3, _⟩ := getD_wl4 h0 h
  rw [← sv_signed h0 h, cn_pos neg h0 h]
  unfold mcells
  rw [e0, e1, e2, e3]
set_option maxRecDepth 100000 in
theorem rwide_any (neg : Bool) (a : Option Addr) (len cap : Nat) (ws : List Int) (w : World) (h : SlU w (.slice a len cap) ws) :
    Calls Try.prog 47 #[.bool neg, .slice a len cap] w fun e w' => e = .returned (.tuple #[WE (cl (sv neg (VL ws))), .bool (fb (sv neg (VL ws)))]) ∧ Below w.heap.size w w' := by
  generalize hR : Value.tuple #[WE (cl (sv neg (VL ws))), .bool (fb (sv neg (VL ws)))] = R
  have HR := hid hR
  clear hR
  have hm := VL_nonneg h.ws
  have h' := h.alloc (.cells #[.bool false, .int .u64 0, .int .u64 0, .int .u64 0, .int .u64 0] 27 (0, 0))
  have hcan := h.canon
  have hlen := wl_fit hm
  have hlo := wl_words (VL ws)
  generalize hM : VL ws = m at *
  by_cases hu : up4 m = 0
  · have hl4 : (wl m).length ≤ 4 := hlen.2 hu
    have hf : Fits (sv neg m) := (fits_sv hm).2 hu
    have E := hid (And.intro ((we_mcells neg hm hu).trans (by rw [cl_fit hf]) : _ = WE (cl (sv neg m))) (by rw [fb_fit hf] : true = fb (sv neg m)))
    obtain ⟨a', len', cap', e, h1, h2, h3, h4, h5⟩ := hcan
    cases e
    have H5 := hid h5
    have HM := hid hM
    clear h5 hf hlen h4 h1 hM
    generalize hnb : (neg && decide (0 < (wl m).length)) = nb at *
    have HNB := hid hnb
    generalize hk : (wl m).length = k at *
    have HK := hid hk
    clear hk
    have hk' : decide ((4 : Int) < (k : Int)) = false := dF (by omega)
    cases neg
    · simp only [Bool.false_and, Bool.true_and] at hnb
      subst hnb
      go_enter Try.func47, Try.ntmps47
      go_wp2_with (go_at_call 65; refine (rtrim_any a len cap ws _ h').mono ?_; rintro e w' ⟨rfl, rfl⟩; rw [HM.out, HK.out])
      clear h'
      go_loopw [7] (fun s wr => ∃ i : Nat, i ≤ k ∧ s = .int .i64 i ∧ Below w.heap.size w wr ∧ w.heap.size + 2 ≤ wr.heap.size ∧ Bx wr w.heap.size #[.bool false, .int .u64 0, .int .u64 0, .int .u64 0, .int .u64 0] ∧ Bx wr (w.heap.size + 1) (mcells false ((wl m).take i))) (fun s _ => k - (intOf s).toNat)
      case atStart =>
        exact ⟨0, Nat.zero_le _, rfl, by (repeat' (first | (with_reducible assumption) | (with_reducible exact Below.refl _ _) | (with_reducible refine Below.alloc ?_ ?_ _) | (with_reducible refine Below.setCell ?_ ?_ _) | (with_reducible refine Below.drew ?_) | (with_reducible refine below_more ?_ (by with_reducible assumption)) | go_size | omega | (with_reducible refine below_drewN ?_))), by go_size, Bx.of (by (repeat' (first | (with_reducible assumption) | ((with_reducible refine HB.new _ _ _ ?_) <;> (go_size; done)) | (with_reducible refine HB.old (by go_size) ?_) | (with_reducible refine HB.drew ?_) | (with_reducible refine HB.over5 ?_) | (with_reducible refine HB.over4 ?_) | (with_reducible refine HB.setne (by first | go_size | (dsimp only; omega)) ?_) | (with_reducible refine HN.set ?_) | (with_reducible refine HN.setne (by first | go_size | (dsimp only; omega)) ?_) | (with_reducible refine HN.drew ?_) | (with_reducible refine HN.old (by go_size) ?_) | (with_reducible exact HN.of5 (by assumption)) | (with_reducible exact HN.new5 _ _ (by go_size)) | (with_reducible exact HN.of4 (by assumption)) | (with_reducible exact HN.new4 _ _ (by go_size))))), Bx.of (by rw [List.take_zero, mcells_nil]; (repeat' (first | (with_reducible assumption) | ((with_reducible refine HB.new _ _ _ ?_) <;> (go_size; done)) | (with_reducible refine HB.old (by go_size) ?_) | (with_reducible refine HB.drew ?_) | (with_reducible refine HB.over5 ?_) | (with_reducible refine HB.over4 ?_) | (with_reducible refine HB.setne (by first | go_size | (dsimp only; omega)) ?_) | (with_reducible refine HN.set ?_) | (with_reducible refine HN.setne (by first | go_size | (dsimp only; omega)) ?_) | (with_reducible refine HN.drew ?_) | (with_reducible refine HN.old (by go_size) ?_) | (with_reducible exact HN.of5 (by assumption)) | (with_reducible exact HN.new5 _ _ (by go_size)) | (with_reducible exact HN.of4 (by assumption)) | (with_reducible exact HN.new4 _ _ (by go_size)))))⟩
      case round =>
        obtain ⟨i, hi, rfl, hb0, hn0, ⟨B1, B1c, B1f, B1l⟩, ⟨B2, B2c, B2f, B2l⟩⟩ := hrel
        by_cases hlt : i < k
        · obtain ⟨b, off, rfl, hbl, hcell⟩ := H5.out (by omega)
          have hc := (hb0.cell (p := ⟨b, off + i, none⟩) hbl).trans (hcell i hlt)
          have hi4 : i < 4 := by omega
          have hm0 : wr.cell? ⟨w.heap.size + 1, 1 + i, none⟩ = some (.int .u64 0) := (B2c (1 + i)).trans (mcells_at _ _ hi4)
          clear hcell
          generalize hx : (wl m).getD i 0 = x at *
          have HX := hid hx
          clear hx B2c B1c
          go_wp2
          go_roundw
          case rel => exact ⟨i + 1, by omega, by go_num, by (repeat' (first | (with_reducible assumption) | (with_reducible exact Below.refl _ _) | (with_reducible refine Below.alloc ?_ ?_ _) | (with_reducible refine Below.setCell ?_ ?_ _) | (with_reducible refine Below.drew ?_) | (with_reducible refine below_more ?_ (by with_reducible assumption)) | go_size | omega | (with_reducible refine below_drewN ?_))), by (first | go_size | omega), Bx.of (by (repeat' (first | (with_reducible assumption) | ((with_reducible refine HB.new _ _ _ ?_) <;> (go_size; done)) | (with_reducible refine HB.old (by go_size) ?_) | (with_reducible refine HB.drew ?_) | (with_reducible refine HB.over5 ?_) | (with_reducible refine HB.over4 ?_) | (with_reducible refine HB.setne (by first | go_size | (dsimp only; omega)) ?_) | (with_reducible refine HN.set ?_) | (with_reducible refine HN.setne (by first | go_size | (dsimp only; omega)) ?_) | (with_reducible refine HN.drew ?_) | (with_reducible refine HN.old (by go_size) ?_) | (with_reducible exact HN.of5 (by assumption)) | (with_reducible exact HN.new5 _ _ (by go_size)) | (with_reducible exact HN.of4 (by assumption)) | (with_reducible exact HN.new4 _ _ (by go_size))))), Bx.of (HB.set B2 (by rw [← HX.out]; exact mcells_set _ _ hi4))⟩
          case measure => simp [intOf]; try omega
        · obtain rfl : i = k := by omega
          have E2 : mcells false ((wl m).take i) = mcells false (wl m) := by rw [List.take_of_length_le (by rw [HK.out]; exact Nat.le_refl _)]
          rw [E2] at B2 B2c
          clear E2
          have e0 : (mcells false (wl m))[0]? = some (.bool false) := rfl
          have e1 : (mcells false (wl m))[1]? = some (.int .u64 ((wl m).getD 0 0)) := rfl
          have e2 : (mcells false (wl m))[2]? = some (.int .u64 ((wl m).getD 1 0)) := rfl
          have e3 : (mcells false (wl m))[3]? = some (.int .u64 ((wl m).getD 2 0)) := rfl
          have e4 : (mcells false (wl m))[4]? = some (.int .u64 ((wl m).getD 3 0)) := rfl
          (repeat' (first | go_values | go_skip | go_guarded | go_step | go_upon | (simp only [Int.not_lt, Int.not_le] at *; go_simp) | (go_values <;> (try go_simp)) | (go_ite <;> go_prune <;> (try go_simp)) | (split <;> (first | (rename_i hx; exact (hx _ rfl).elim) | go_prune))))
          refine bodyPost_ret (v := .tuple #[_, .bool true]) ?_ rfl ⟨congrArg Ending.returned ((ret_w E.out.1 E.out.2).trans HR.out), by (repeat' (first | (with_reducible assumption) | (with_reducible exact Below.refl _ _) | (with_reducible refine Below.alloc ?_ ?_ _) | (with_reducible refine Below.setCell ?_ ?_ _) | (with_reducible refine Below.drew ?_) | (with_reducible refine below_more ?_ (by with_reducible assumption)) | go_size | omega | (with_reducible refine below_drewN ?_)))⟩
          simp [results, Try.results47, go_sem, B1c, B1f, B1l, mcells]
    · simp only [Bool.false_and, Bool.true_and] at hnb
      subst hnb
      go_enter Try.func47, Try.ntmps47
      go_wp2_with (go_at_call 65; refine (rtrim_any a len cap ws _ h').mono ?_; rintro e w' ⟨rfl, rfl⟩; rw [HM.out, HK.out])
      clear h'
      go_loopw [7] (fun s wr => ∃ i : Nat, i ≤ k ∧ s = .int .i64 i ∧ Below w.heap.size w wr ∧ w.heap.size + 2 ≤ wr.heap.size ∧ Bx wr w.heap.size #[.bool false, .int .u64 0, .int .u64 0, .int .u64 0, .int .u64 0] ∧ Bx wr (w.heap.size + 1) (mcells (decide (0 < k)) ((wl m).take i))) (fun s _ => k - (intOf s).toNat)
      case atStart =>
        exact ⟨0, Nat.zero_le _, rfl, by (repeat' (first | (with_reducible assumption) | (with_reducible exact Below.refl _ _) | (with_reducible refine Below.alloc ?_ ?_ _) | (with_reducible refine Below.setCell ?_ ?_ _) | (with_reducible refine Below.drew ?_) | (with_reducible refine below_more ?_ (by with_reducible assumption)) | go_size | omega | (with_reducible refine below_drewN ?_))), by go_size, Bx.of (by (repeat' (first | (with_reducible assumption) | ((with_reducible refine HB.new _ _ _ ?_) <;> (go_size; done)) | (with_reducible refine HB.old (by go_size) ?_) | (with_reducible refine HB.drew ?_) | (with_reducible refine HB.over5 ?_) | (with_reducible refine HB.over4 ?_) | (with_reducible refine HB.setne (by first | go_size | (dsimp only; omega)) ?_) | (with_reducible refine HN.set ?_) | (with_reducible refine HN.setne (by first | go_size | (dsimp only; omega)) ?_) | (with_reducible refine HN.drew ?_) | (with_reducible refine HN.old (by go_size) ?_) | (with_reducible exact HN.of5 (by assumption)) | (with_reducible exact HN.new5 _ _ (by go_size)) | (with_reducible exact HN.of4 (by assumption)) | (with_reducible exact HN.new4 _ _ (by go_size))))), Bx.of (by rw [List.take_zero, mcells_nil]; (repeat' (first | (with_reducible assumption) | ((with_reducible refine HB.new _ _ _ ?_) <;> (go_size; done)) | (with_reducible refine HB.old (by go_size) ?_) | (with_reducible refine HB.drew ?_) | (with_reducible refine HB.over5 ?_) | (with_reducible refine HB.over4 ?_) | (with_reducible refine HB.setne (by first | go_size | (dsimp only; omega)) ?_) | (with_reducible refine HN.set ?_) | (with_reducible refine HN.setne (by first | go_size | (dsimp only; omega)) ?_) | (with_reducible refine HN.drew ?_) | (with_reducible refine HN.old (by go_size) ?_) | (with_reducible exact HN.of5 (by assumption)) | (with_reducible exact HN.new5 _ _ (by go_size)) | (with_reducible exact HN.of4 (by assumption)) | (with_reducible exact HN.new4 _ _ (by go_size)))))⟩
      case round =>
        obtain ⟨i, hi, rfl, hb0, hn0, ⟨B1, B1c, B1f, B1l⟩, ⟨B2, B2c, B2f, B2l⟩⟩ := hrel
        by_cases hlt : i < k
        · obtain ⟨b, off, rfl, hbl, hcell⟩ := H5.out (by omega)
          have hc := (hb0.cell (p := ⟨b, off + i, none⟩) hbl).trans (hcell i hlt)
          have hi4 : i < 4 := by omega
          have hm0 : wr.cell? ⟨w.heap.size + 1, 1 + i, none⟩ = some (.int .u64 0) := (B2c (1 + i)).trans (mcells_at _ _ hi4)
          clear hcell
          generalize hx : (wl m).getD i 0 = x at *
          have HX := hid hx
          clear hx B2c B1c
          go_wp2
          go_roundw
          case rel => exact ⟨i + 1, by omega, by go_num, by (repeat' (first | (with_reducible assumption) | (with_reducible exact Below.refl _ _) | (with_reducible refine Below.alloc ?_ ?_ _) | (with_reducible refine Below.setCell ?_ ?_ _) | (with_reducible refine Below.drew ?_) | (with_reducible refine below_more ?_ (by with_reducible assumption)) | go_size | omega | (with_reducible refine below_drewN ?_))), by (first | go_size | omega), Bx.of (by (repeat' (first | (with_reducible assumption) | ((with_reducible refine HB.new _ _ _ ?_) <;> (go_size; done)) | (with_reducible refine HB.old (by go_size) ?_) | (with_reducible refine HB.drew ?_) | (with_reducible refine HB.over5 ?_) | (with_reducible refine HB.over4 ?_) | (with_reducible refine HB.setne (by first | go_size | (dsimp only; omega)) ?_) | (with_reducible refine HN.set ?_) | (with_reducible refine HN.setne (by first | go_size | (dsimp only; omega)) ?_) | (with_reducible refine HN.drew ?_) | (with_reducible refine HN.old (by go_size) ?_) | (with_reducible exact HN.of5 (by assumption)) | (with_reducible exact HN.new5 _ _ (by go_size)) | (with_reducible exact HN.of4 (by assumption)) | (with_reducible exact HN.new4 _ _ (by go_size))))), Bx.of (HB.set B2 (by rw [← HX.out]; exact mcells_set _ _ hi4))⟩
          case measure => simp [intOf]; try omega
        · obtain rfl : i = k := by omega
          have E2 : mcells (decide (0 < i)) ((wl m).take i) = mcells (decide (0 < i)) (wl m) := by rw [List.take_of_length_le (by rw [HK.out]; exact Nat.le_refl _)]
          rw [E2] at B2 B2c
          clear E2
          have e0 : (mcells (decide (0 < i)) (wl m))[0]? = some (.bool (decide (0 < i))) := rfl
          have e1 : (mcells (decide (0 < i)) (wl m))[1]? = some (.int .u64 ((wl m).getD 0 0)) := rfl
          have e2 : (mcells (decide (0 < i)) (wl m))[2]? = some (.int .u64 ((wl m).getD 1 0)) := rfl
          have e3 : (mcells (decide (0 < i)) (wl m))[3]? = some (.int .u64 ((wl m).getD 2 0)) := rfl
          have e4 : (mcells (decide (0 < i)) (wl m))[4]? = some (.int .u64 ((wl m).getD 3 0)) := rfl
          (repeat' (first | go_values | go_skip | go_guarded | go_step | go_upon | (simp only [Int.not_lt, Int.not_le] at *; go_simp) | (go_values <;> (try go_simp)) | (go_ite <;> go_prune <;> (try go_simp)) | (split <;> (first | (rename_i hx; exact (hx _ rfl).elim) | go_prune))))
          refine bodyPost_ret (v := .tuple #[_, .bool true]) ?_ rfl ⟨congrArg Ending.returned ((ret_w E.out.1 E.out.2).trans HR.out), by (repeat' (first | (with_reducible assumption) | (with_reducible exact Below.refl _ _) | (with_reducible refine Below.alloc ?_ ?_ _) | (with_reducible refine Below.setCell ?_ ?_ _) | (with_reducible refine Below.drew ?_) | (with_reducible refine below_more ?_ (by with_reducible assumption)) | go_size | omega | (with_reducible refine below_drewN ?_)))⟩
          simp [results, Try.results47, go_sem, B1c, B1f, B1l, mcells]
  · have hf : ¬Fits (sv neg m) := fun h => hu ((fits_sv hm).1 h)
    have E := hid (And.intro (we_zero.symm.trans (by rw [cl_not hf]) : WV false 0 0 0 0 = WE (cl (sv neg m))) (by rw [fb_not hf] : false = fb (sv neg m)))
    have hl4 : 4 < (wl m).length := by
      rcases Nat.lt_or_ge 4 (wl m).length with h | h
      · exact h
      · exact absurd (hlen.1 h) hu
    have HM := hid hM
    clear hf hlen hM hcan h hu
    generalize hk : (wl m).length = k at *
    have HK := hid hk
    clear hk
    have hk' : decide ((4 : Int) < (k : Int)) = true := dT (by omega)
    go_enter Try.func47, Try.ntmps47
    (repeat' (first | (go_big_may; (first | (go_at_call 65; refine (rtrim_any a len cap ws _ h').mono ?_; rintro e w' ⟨rfl, rfl⟩; rw [HM.out, HK.out]))) | go_values | go_skip | go_guarded | go_step | go_upon | (simp only [Int.not_lt, Int.not_le] at *; go_simp) | (go_values <;> (try go_simp)) | (go_ite <;> go_prune <;> (try go_simp)) | (split <;> (first | (rename_i hx; exact (hx _ rfl).elim) | go_prune))))
    refine bodyPost_ret (v := .tuple #[WV false 0 0 0 0, .bool false]) ?_ rfl ⟨congrArg Ending.returned ((ret_w E.out.1 E.out.2).trans HR.out), by (repeat' (first | (with_reducible assumption) | (with_reducible exact Below.refl _ _) | (with_reducible refine Below.alloc ?_ ?_ _) | (with_reducible refine Below.setCell ?_ ?_ _) | (with_reducible refine Below.drew ?_) | (with_reducible refine below_more ?_ (by with_reducible assumption)) | go_size | omega | (with_reducible refine below_drewN ?_)))⟩
    simp [results, Try.results47, go_sem]
def Eqs (A B : List Int) (i : Nat) : Prop := ∀ j, i ≤ j → A.getD j 0 = B.getD j 0
theorem drewN_two (w : World) (a b : Nat) : (w.drewN a).drewN b = w.drewN (a + b) := by simp [World.drewN, Nat.add_assoc]
set_option maxRecDepth 100000 in
theorem rcompare_any (a a' : Option Addr) (len cap len' cap' : Nat) (m n : Int) (hm : 0 ≤ m) (hn : 0 ≤ n) (w : World) (h : SlU w (.slice a len cap) (wl m)) (h' : SlU w (.slice a' len' cap') (wl n)) :
    Calls Try.prog 51 #[.slice a len cap, .slice a' len' cap'] w fun e w' => e = .returned (.int .i64 (cm m n)) ∧ ∃ d, w' = w.drewN d := by
  obtain ⟨a0, l0, c0, e, h1, h2, h3, h4, h5⟩ := h
  cases e
  obtain ⟨a1, l1, c1, e, g1, g2, g3, g4, g5⟩ := h'
  cases e
  generalize hR : cm m n = R
  have HR := hid hR
  clear hR
  by_cases hl : len = len'
  · subst hl
    have eA := VL_wl hm
    have eB := VL_wl hn
    have H5 := hid (And.intro h5 g5)
    have H4 := hid (And.intro (And.intro h1 g1) (And.intro (And.intro eA eB) (And.intro h4 g4)))
    clear h5 g5 h4 g4 h1 g1 eA eB
    generalize wl m = A at *
    generalize wl n = B at *
    have tl : decide ((len : Int) < (len : Int)) = false := dF (by omega)
    go_enter Try.func51, Try.ntmps51
    go_wp2
    go_loopw [5] (fun s wr => ∃ (i d : Nat), i ≤ len ∧ s = .int .i64 ((i : Int) - 1) ∧ wr = w.drewN d ∧ Hid (Eqs A B i)) (fun s _ => (intOf s + 1).toNat)
    case atStart => exact ⟨len, 0, Nat.le_refl _, rfl, rfl, hid (fun j hj => by rw [List.getD_eq_getElem?_getD, List.getD_eq_getElem?_getD, List.getElem?_eq_none (by rw [H4.out.1.1]; exact hj), List.getElem?_eq_none (by rw [H4.out.1.2]; exact hj)])⟩
    case round =>
      obtain ⟨i, d, hi, rfl, rfl, he⟩ := hrel
      rcases Nat.eq_zero_or_pos i with h0 | h0
      · subst h0
        go_wp2
        go_ret
        obtain ⟨⟨l1, l2⟩, ⟨e1, e2⟩, _⟩ := H4.out
        have := VL_same (l1.trans l2.symm) (fun j => he.out j (Nat.zero_le _))
        refine ⟨?_, d, rfl⟩
        rw [← HR.out]
        rw [this, e2] at e1
        rw [← e1, cm_eq]; rfl
      · obtain ⟨q, rfl⟩ : ∃ q, i = q + 1 := ⟨i - 1, by omega⟩
        have hql : q < len := by omega
        obtain ⟨⟨l1, l2⟩, ⟨e1, e2⟩, w1, w2⟩ := H4.out
        obtain ⟨b, off, rfl, hbl, hcell⟩ := H5.out.1 (by omega)
        obtain ⟨b', off', rfl, hbl', hcell'⟩ := H5.out.2 (by omega)
        have hc := hcell q hql
        have hc' := hcell' q hql
        clear hcell hcell' H5
        have T3 : A.getD q 0 < B.getD q 0 → cm m n = -1 := fun h => by
          have := VL_top w1 w2 (l1.trans l2.symm) (by omega) (fun j hj => he.out j hj) h
          rw [e1, e2] at this; exact cm_lt this
        have T4 : B.getD q 0 < A.getD q 0 → cm m n = 1 := fun h => by
          have := VL_top w2 w1 (l2.trans l1.symm) (by omega) (fun j hj => (he.out j hj).symm) h
          rw [e1, e2] at this; exact cm_gt this
        have T5 : A.getD q 0 = B.getD q 0 → Eqs A B q := fun h j hj => (Nat.eq_or_lt_of_le hj).elim (fun e => e ▸ h) (fun e => he.out j e)
        generalize A.getD q 0 = x at *
        generalize B.getD q 0 = y at *
        have H3 := hid (And.intro T3 (And.intro T4 T5))
        clear T3 T4 T5 l1 l2 e1 e2 w1 w2 H4
        have e1 : ((q + 1 : Nat) : Int) - 1 = (q : Int) := by omega
        have hq0 : (0 : Int) ≤ (q : Int) := Int.natCast_nonneg _
        have hq1 : (q : Int) < (len : Int) := by omega
        simp only [e1]
        clear e1
        rcases Int.lt_trichotomy x y with hxy | hxy | hxy
        · have t1 : decide (x < y) = true := dT hxy
          go_wp2
          go_quiet (fail)
          go_wp2
          go_ret
          exact ⟨ret_i (by rw [← HR.out, H3.out.1 hxy]), _, drewN_two _ _ _⟩
        · subst hxy
          have t1 : decide (x < x) = false := dF (by omega)
          go_wp2
          go_quiet (fail)
          go_wp2
          go_quiet (fail)
          go_wp2
          go_roundw
          case rel => exact ⟨q, _, by omega, rfl, rfl, hid (H3.out.2.2 (by trivial))⟩
          case measure => simp [intOf]; try omega
        · have t1 : decide (x < y) = false := dF (by omega)
          have t2 : decide (y < x) = true := dT hxy
          go_wp2
          go_quiet (fail)
          go_wp2
          go_quiet (fail)
          go_wp2
          go_ret
          exact ⟨ret_i (by rw [← HR.out, H3.out.2.1 hxy]), _, by rw [drewN_two, drewN_two]⟩
  · have T3 : len < len' → cm m n = -1 := fun h => cm_lt (wl_lt_of_len hm hn (by rw [h1, g1]; exact h))
    have T4 : len' < len → cm m n = 1 := fun h => cm_gt (wl_lt_of_len hn hm (by rw [h1, g1]; exact h))
    have H3 := hid (And.intro T3 T4)
    clear T3 T4 h5 g5 h4 g4 h1 g1
    have t0 : ((len : Int) != (len' : Int)) = true := bne_iff_ne.2 (by omega)
    rcases Nat.lt_or_ge len len' with hlt | hge
    · have t1 : decide (len < len') = true := dT hlt
      have t2 : decide ((len : Int) < (len' : Int)) = true := dT (by omega)
      go_enter Try.func51, Try.ntmps51
      go_wp2
      go_ret
      exact ⟨ret_i (by rw [← HR.out, H3.out.1 hlt]), 0, rfl⟩
    · have hlt : len' < len := by omega
      have t1 : decide (len < len') = false := dF (by omega)
      have t2 : decide ((len : Int) < (len' : Int)) = false := dF (by omega)
      go_enter Try.func51, Try.ntmps51
      go_wp2
      go_ret
      exact ⟨ret_i (by rw [← HR.out, H3.out.2 hlt]), 0, rfl⟩
end Go.Proofs.Ythcboomdkpiflaa

/- WideM: The package wide: the product of absolute values. -/
namespace Go.Proofs.Ythcboomdkpiflaa
open Go.ChangeShapes Go.WideShapes Go.ChangeAt Go.RowKit
set_option linter.unusedVariables false
set_option linter.unusedSimpArgs false
theorem wmul64_any (x y : Int) (hx : U64 x) (hy : U64 y) (w : World) :
    Calls Try.prog 66 #[.int .u64 x, .int .u64 y] w fun e w' => e = .returned (.tuple #[.int .u64 (hi64 x y), .int .u64 (lo64 x y)]) ∧ w = w' := by
  obtain ⟨x1, x2⟩ := hx; obtain ⟨y1, y2⟩ := hy
  obtain ⟨n, rfl⟩ := Int.eq_ofNat_of_zero_le x1
  obtain ⟨m, rfl⟩ := Int.eq_ofNat_of_zero_le y1
  refine (Try.bits_Mul64 n m (by omega) (by omega) w).mono ?_
  rintro e w' ⟨rfl, rfl⟩
  exact ⟨by rw [hilo_nat n m, lo_nat n m], rfl⟩
theorem mstep {x y acc cy : Int} (hx : U64 x) (hy : U64 y) (ha : U64 acc) (hc : U64 cy) : ∃ r0 c0 h1 r1 c1 cy' : Int, U64 r1 ∧ U64 cy' ∧ r1 + 18446744073709551616 * cy' = x * y + acc + cy ∧ IntKind.u64.wrap (hi64 x y + c0) = h1 ∧ IntKind.u64.wrap (h1 + c1) = cy' ∧
    (∀ W, (callFunc 67 #[.int .u64 acc, .int .u64 (lo64 x y), .int .u64 0]).run Try.prog W = .ok (.value (.tuple #[.int .u64 r0, .int .u64 c0])) W) ∧
    (∀ W, (callFunc 67 #[.int .u64 r0, .int .u64 cy, .int .u64 0]).run Try.prog W = .ok (.value (.tuple #[.int .u64 r1, .int .u64 c1])) W) := by
  have hl : U64 (lo64 x y) := ⟨by unfold lo64; omega, by unfold lo64; omega⟩
  have hr : U64 (s64 acc (lo64 x y) 0) := s64_in _ _ _
  have e : lo64 x y + 18446744073709551616 * hi64 x y = x * y := by unfold lo64 hi64; omega
  have hp : 0 ≤ x * y := Int.mul_nonneg hx.1 hy.1
  have hp2 : x * y ≤ 18446744073709551615 * 18446744073709551615 := Int.mul_le_mul (by have := hx.2; omega) (by have := hy.2; omega) hy.1 (by decide)
  have b1 := c64_bit ha hl Bit.zero
  have b2 := c64_bit hr hc Bit.zero
  have e1 : s64 acc (lo64 x y) 0 + 18446744073709551616 * c64 acc (lo64 x y) 0 = acc + lo64 x y := by unfold s64 c64; omega
  have e2 : s64 (s64 acc (lo64 x y) 0) cy 0 + 18446744073709551616 * c64 (s64 acc (lo64 x y) 0) cy 0 = s64 acc (lo64 x y) 0 + cy := by unfold s64 c64; omega
  have A1 := fun W => add64 ha hl Bit.zero W
  have A2 := fun W => add64 hr hc Bit.zero W
  have hr1 : U64 (s64 (s64 acc (lo64 x y) 0) cy 0) := s64_in _ _ _
  generalize s64 (s64 acc (lo64 x y) 0) cy 0 = r1 at *
  generalize c64 (s64 acc (lo64 x y) 0) cy 0 = c1 at *
  generalize s64 acc (lo64 x y) 0 = r0 at *
  generalize c64 acc (lo64 x y) 0 = c0 at *
  have hh : 0 ≤ hi64 x y := by unfold hi64; omega
  obtain ⟨x1, x2⟩ := hr1; obtain ⟨y1, y2⟩ := ha; obtain ⟨z1, z2⟩ := hc; obtain ⟨u1, u2⟩ := b1; obtain ⟨v1, v2⟩ := b2; obtain ⟨l1, l2⟩ := hl; obtain ⟨s1, s2⟩ := hr
  generalize hi64 x y = h at *
  generalize lo64 x y = l at *
  generalize x * y = p at *
  have k : r1 + 18446744073709551616 * (h + c0 + c1) = p + acc + cy := by omega
  have k1 : h + c0 + c1 < 18446744073709551616 := by omega
  have w1 : IntKind.u64.wrap (h + c0) = h + c0 := u64_wrap_id _ ⟨by omega, by omega⟩
  have w2 : IntKind.u64.wrap (h + c0 + c1) = h + c0 + c1 := u64_wrap_id _ ⟨by omega, by omega⟩
  exact ⟨r0, c0, h + c0, r1, c1, h + c0 + c1, ⟨x1, x2⟩, ⟨by omega, by omega⟩, k, w1, w2, A1, A2⟩
/-- A row of the product. -/
theorem mrow {x b0 b1 b2 b3 v0 v1 v2 v3 r0 r1 r2 r3 c1 c2 c3 c4 : Int} (e0 : r0 + 18446744073709551616 * c1 = x * b0 + v0 + 0) (e1 : r1 + 18446744073709551616 * c2 = x * b1 + v1 + c1) (e2 : r2 + 18446744073709551616 * c3 = x * b2 + v2 + c2) (e3 : r3 + 18446744073709551616 * c4 = x * b3 + v3 + c3) :
    r0 + 18446744073709551616 * MV r1 r2 r3 c4 = x * MV b0 b1 b2 b3 + MV v0 v1 v2 v3 := by
  have D : ∀ u v : Int, x * (u + 18446744073709551616 * v) = x * u + 18446744073709551616 * (x * v) := fun u v => by rw [Int.mul_add, Int.mul_left_comm]
  have R : ∀ a b c d : Int, a + 18446744073709551616 * b + (c + 18446744073709551616 * d) = (a + c) + 18446744073709551616 * (b + d) := fun a b c d => by omega
  unfold MV
  rw [D, D, D, R, R, R]
  generalize x * b0 = p0 at *
  generalize x * b1 = p1 at *
  generalize x * b2 = p2 at *
  generalize x * b3 = p3 at *
  rw [e3]
  have s2 : r2 + 18446744073709551616 * (p3 + v3 + c3) = (p2 + v2 + 18446744073709551616 * (p3 + v3)) + c2 := by omega
  rw [s2]
  generalize p2 + v2 + 18446744073709551616 * (p3 + v3) = q2
  have s1 : r1 + 18446744073709551616 * (q2 + c2) = (p1 + v1 + 18446744073709551616 * q2) + c1 := by omega
  rw [s1]
  generalize p1 + v1 + 18446744073709551616 * q2 = q1
  omega
/-- The product from its rows. -/
theorem mrows {a0 a1 a2 a3 N l0 l1 l2 l3 U1 U2 U3 H : Int} (t0 : l0 + 18446744073709551616 * U1 = a0 * N + 0) (t1 : l1 + 18446744073709551616 * U2 = a1 * N + U1) (t2 : l2 + 18446744073709551616 * U3 = a2 * N + U2) (t3 : l3 + 18446744073709551616 * H = a3 * N + U3) :
    MV a0 a1 a2 a3 * N = l0 + 18446744073709551616 * (l1 + 18446744073709551616 * (l2 + 18446744073709551616 * (l3 + 18446744073709551616 * H))) := by
  have D : ∀ u v : Int, (u + 18446744073709551616 * v) * N = u * N + 18446744073709551616 * (v * N) := fun u v => by rw [Int.add_mul, Int.mul_assoc]
  unfold MV
  rw [D, D, D, t3]
  generalize a0 * N = p0 at *
  generalize a1 * N = p1 at *
  generalize a2 * N = p2 at *
  generalize a3 * N = p3 at *
  have s2 : l2 + 18446744073709551616 * (p3 + U3) = (p2 + 18446744073709551616 * p3) + U2 := by omega
  rw [s2]
  generalize p2 + 18446744073709551616 * p3 = q2
  have s1 : l1 + 18446744073709551616 * (q2 + U2) = (p1 + 18446744073709551616 * q2) + U1 := by omega
  rw [s1]
  generalize p1 + 18446744073709551616 * q2 = q1
  omega
theorem mwords {l0 l1 l2 l3 H : Int} (h0 : U64 l0) (h1 : U64 l1) (h2 : U64 l2) (h3 : U64 l3) :
    lb0 (l0 + 18446744073709551616 * (l1 + 18446744073709551616 * (l2 + 18446744073709551616 * (l3 + 18446744073709551616 * H)))) = l0 ∧ lb1 (l0 + 18446744073709551616 * (l1 + 18446744073709551616 * (l2 + 18446744073709551616 * (l3 + 18446744073709551616 * H)))) = l1 ∧
    lb2 (l0 + 18446744073709551616 * (l1 + 18446744073709551616 * (l2 + 18446744073709551616 * (l3 + 18446744073709551616 * H)))) = l2 ∧ lb3 (l0 + 18446744073709551616 * (l1 + 18446744073709551616 * (l2 + 18446744073709551616 * (l3 + 18446744073709551616 * H)))) = l3 ∧
    up4 (l0 + 18446744073709551616 * (l1 + 18446744073709551616 * (l2 + 18446744073709551616 * (l3 + 18446744073709551616 * H)))) = H := by
  refine ⟨?_, ?_, ?_, ?_, ?_⟩
  · rw [lb0_add, lb0_id h0]
  · unfold lb1; rw [up1_add, up1_id h0, Int.zero_add, lb0_add, lb0_id h1]
  · unfold lb2; rw [up1_add, up1_id h0, Int.zero_add, up1_add, up1_id h1, Int.zero_add, lb0_add, lb0_id h2]
  · unfold lb3; rw [up1_add, up1_id h0, Int.zero_add, up1_add, up1_id h1, Int.zero_add, up1_add, up1_id h2, Int.zero_add, lb0_add, lb0_id h3]
  · unfold up4; rw [up1_add, up1_id h0, Int.zero_add, up1_add, up1_id h1, Int.zero_add, up1_add, up1_id h2, Int.zero_add, up1_add, up1_id h3, Int.zero_add]
theorem copy4 (b g : Nat) {l0 l1 l2 l3 l4 l5 l6 l7 : Int} {W : World} (hd : HN W b 4) (hs : HB W g #[.int .u64 l0, .int .u64 l1, .int .u64 l2, .int .u64 l3, .int .u64 l4, .int .u64 l5, .int .u64 l6, .int .u64 l7]) :
    (Builtin.copy_ #[66, 66] 3 #[.slice (some ⟨b, 0, none⟩) 4 4, .slice (some ⟨g, 0, none⟩) 4 8]).run Try.prog W = .ok (.int .i64 4) ((((W.setCell ⟨b, 0, none⟩ (.int .u64 l0)).setCell ⟨b, 1, none⟩ (.int .u64 l1)).setCell ⟨b, 2, none⟩ (.int .u64 l2)).setCell ⟨b, 3, none⟩ (.int .u64 l3)) := by
  have hb := Bx.of hs
  refine (run_copy_cells W _ _ _ 24 b 0 4 4 ⟨g, 0, none⟩ 4 8 [.int .u64 l0, .int .u64 l1, .int .u64 l2, .int .u64 l3] Try.underlying66 (by kernel_rfl) rfl ?_ ?_ ?_ ?_).trans rfl
  · intro j v hv
    have e : (⟨g, 0, none⟩ : Addr).add j = ⟨g, j, none⟩ := by
      unfold Addr.add
      by_cases h : j = 0
      · rw [if_pos h, h]
      · rw [if_neg h]; simp
    rw [e, hb.2.1 j]
    match j, hv with
    | 0, hv => exact hv
    | 1, hv => exact hv
    | 2, hv => exact hv
    | 3, hv => exact hv
    | j + 4, hv => simp at hv
  · intro j hj
    have hj' : j < 4 := hj
    rw [Nat.zero_add, hd.cell hj']; rfl
  · intro j hj
    exact hd.froz _
  · intro v hv
    simp at hv
    rcases hv with rfl | rfl | rfl | rfl <;> rfl
theorem arr4 (g o : Nat) (W : World) : (Instr.arrayAt 25 (.slice (some ⟨g, o, none⟩) 4 4)).run Try.prog W = .ok (.pointer (some ⟨g, o, none⟩)) W := by
  simp [Instr.arrayAt, run_underlying Try.underlying25, go_sem]
theorem mz_b {a b c d : Int} (h : U64 a) (h1 : U64 b) (h2 : U64 c) (h3 : U64 d) : (MV a b c d == 0) = mz a b c d := by
  cases e : mz a b c d
  · refine beq_eq_false_iff_ne.2 fun h0 => ?_
    rw [(mz_iff h h1 h2 h3).2 h0] at e; cases e
  · exact beq_iff_eq.2 ((mz_iff h h1 h2 h3).1 e)
theorem idx4 (a b c d : Int) (W : World) :
    (Instr.index 25 (MG a b c d) (.int .i64 0)).run Try.prog W = .ok (.int .u64 a) W ∧ (Instr.index 25 (MG a b c d) (.int .i64 1)).run Try.prog W = .ok (.int .u64 b) W ∧
    (Instr.index 25 (MG a b c d) (.int .i64 2)).run Try.prog W = .ok (.int .u64 c) W ∧ (Instr.index 25 (MG a b c d) (.int .i64 3)).run Try.prog W = .ok (.int .u64 d) W := by
  have h := Try.underlying25
  refine ⟨?_, ?_, ?_, ?_⟩ <;> simp [Instr.index, run_underlying h, asIntOf, go_sem]
set_option maxHeartbeats 8000000 in
set_option maxRecDepth 100000 in
theorem wmul_any (a0 a1 a2 a3 b0 b1 b2 b3 : Int) (ha0 : U64 a0) (ha1 : U64 a1) (ha2 : U64 a2) (ha3 : U64 a3) (hb0 : U64 b0) (hb1 : U64 b1) (hb2 : U64 b2) (hb3 : U64 b3) (w : World) :
    Calls Try.prog 79 #[MG a0 a1 a2 a3, MG b0 b1 b2 b3] w fun e w' => e = .returned (.tuple #[MG (lb0 (MV a0 a1 a2 a3 * MV b0 b1 b2 b3)) (lb1 (MV a0 a1 a2 a3 * MV b0 b1 b2 b3)) (lb2 (MV a0 a1 a2 a3 * MV b0 b1 b2 b3)) (lb3 (MV a0 a1 a2 a3 * MV b0 b1 b2 b3)), .bool (up4 (MV a0 a1 a2 a3 * MV b0 b1 b2 b3) == 0)]) ∧ Below w.heap.size w w' := by
  obtain ⟨p00, q00, h00, r00, d00, c00, ur00, uc00, e00, w00, x00, A00, B00⟩ := mstep ha0 hb0 U64.zero U64.zero
  have X00 := hid (And.intro w00 (And.intro x00 (And.intro A00 B00)))
  clear w00 x00 A00 B00
  obtain ⟨p01, q01, h01, r01, d01, c01, ur01, uc01, e01, w01, x01, A01, B01⟩ := mstep ha0 hb1 U64.zero uc00
  have X01 := hid (And.intro w01 (And.intro x01 (And.intro A01 B01)))
  clear w01 x01 A01 B01
  obtain ⟨p02, q02, h02, r02, d02, c02, ur02, uc02, e02, w02, x02, A02, B02⟩ := mstep ha0 hb2 U64.zero uc01
  have X02 := hid (And.intro w02 (And.intro x02 (And.intro A02 B02)))
  clear w02 x02 A02 B02
  obtain ⟨p03, q03, h03, r03, d03, c03, ur03, uc03, e03, w03, x03, A03, B03⟩ := mstep ha0 hb3 U64.zero uc02
  have X03 := hid (And.intro w03 (And.intro x03 (And.intro A03 B03)))
  clear w03 x03 A03 B03
  have R0 := mrow e00 e01 e02 e03
  obtain ⟨p10, q10, h10, r10, d10, c10, ur10, uc10, e10, w10, x10, A10, B10⟩ := mstep ha1 hb0 ur01 U64.zero
  have X10 := hid (And.intro w10 (And.intro x10 (And.intro A10 B10)))
  clear w10 x10 A10 B10
  obtain ⟨p11, q11, h11, r11, d11, c11, ur11, uc11, e11, w11, x11, A11, B11⟩ := mstep ha1 hb1 ur02 uc10
  have X11 := hid (And.intro w11 (And.intro x11 (And.intro A11 B11)))
  clear w11 x11 A11 B11
  obtain ⟨p12, q12, h12, r12, d12, c12, ur12, uc12, e12, w12, x12, A12, B12⟩ := mstep ha1 hb2 ur03 uc11
  have X12 := hid (And.intro w12 (And.intro x12 (And.intro A12 B12)))
  clear w12 x12 A12 B12
  obtain ⟨p13, q13, h13, r13, d13, c13, ur13, uc13, e13, w13, x13, A13, B13⟩ := mstep ha1 hb3 uc03 uc12
  have X13 := hid (And.intro w13 (And.intro x13 (And.intro A13 B13)))
  clear w13 x13 A13 B13
  have R1 := mrow e10 e11 e12 e13
  obtain ⟨p20, q20, h20, r20, d20, c20, ur20, uc20, e20, w20, x20, A20, B20⟩ := mstep ha2 hb0 ur11 U64.zero
  have X20 := hid (And.intro w20 (And.intro x20 (And.intro A20 B20)))
  clear w20 x20 A20 B20
  obtain ⟨p21, q21, h21, r21, d21, c21, ur21, uc21, e21, w21, x21, A21, B21⟩ := mstep ha2 hb1 ur12 uc20
  have X21 := hid (And.intro w21 (And.intro x21 (And.intro A21 B21)))
  clear w21 x21 A21 B21
  obtain ⟨p22, q22, h22, r22, d22, c22, ur22, uc22, e22, w22, x22, A22, B22⟩ := mstep ha2 hb2 ur13 uc21
  have X22 := hid (And.intro w22 (And.intro x22 (And.intro A22 B22)))
  clear w22 x22 A22 B22
  obtain ⟨p23, q23, h23, r23, d23, c23, ur23, uc23, e23, w23, x23, A23, B23⟩ := mstep ha2 hb3 uc13 uc22
  have X23 := hid (And.intro w23 (And.intro x23 (And.intro A23 B23)))
  clear w23 x23 A23 B23
  have R2 := mrow e20 e21 e22 e23
  obtain ⟨p30, q30, h30, r30, d30, c30, ur30, uc30, e30, w30, x30, A30, B30⟩ := mstep ha3 hb0 ur21 U64.zero
  have X30 := hid (And.intro w30 (And.intro x30 (And.intro A30 B30)))
  clear w30 x30 A30 B30
  obtain ⟨p31, q31, h31, r31, d31, c31, ur31, uc31, e31, w31, x31, A31, B31⟩ := mstep ha3 hb1 ur22 uc30
  have X31 := hid (And.intro w31 (And.intro x31 (And.intro A31 B31)))
  clear w31 x31 A31 B31
  obtain ⟨p32, q32, h32, r32, d32, c32, ur32, uc32, e32, w32, x32, A32, B32⟩ := mstep ha3 hb2 ur23 uc31
  have X32 := hid (And.intro w32 (And.intro x32 (And.intro A32 B32)))
  clear w32 x32 A32 B32
  obtain ⟨p33, q33, h33, r33, d33, c33, ur33, uc33, e33, w33, x33, A33, B33⟩ := mstep ha3 hb3 uc23 uc32
  have X33 := hid (And.intro w33 (And.intro x33 (And.intro A33 B33)))
  clear w33 x33 A33 B33
  have R3 := mrow e30 e31 e32 e33
  have P := mrows R0 R1 R2 R3
  obtain ⟨P0, P1, P2, P3, P4⟩ := mwords (H := MV r31 r32 r33 c33) ur00 ur10 ur20 ur30
  rw [← P] at P0 P1 P2 P3 P4
  rw [P0, P1, P2, P3, P4, mz_b ur31 ur32 ur33 uc33]
  clear P0 P1 P2 P3 P4 P R0 R1 R2 R3 e00 ur00 uc00 e01 ur01 uc01 e02 ur02 uc02 e03 ur03 uc03 e10 ur10 uc10 e11 ur11 uc11 e12 ur12 uc12 e13 ur13 uc13 e20 ur20 uc20 e21 ur21 uc21 e22 ur22 uc22 e23 ur23 uc23 e30 ur30 uc30 e31 ur31 uc31 e32 ur32 uc32 e33 ur33 uc33
  have IA := fun W => idx4 a0 a1 a2 a3 W
  have IB := fun W => idx4 b0 b1 b2 b3 W
  simp only [forall_and] at IA IB
  obtain ⟨IA0, IA1, IA2, IA3⟩ := IA
  obtain ⟨IB0, IB1, IB2, IB3⟩ := IB
  go_enter Try.func79, Try.ntmps79
  go_wp2
  refine wp_loop_rounds 5 ?_
  rw [rounds_succ]
  go_wp2
  refine wp_gen (fun Wz => Below w.heap.size w Wz ∧ w.heap.size + 4 ≤ Wz.heap.size ∧ Bx Wz (w.heap.size) (#[.int .u64 a0, .int .u64 a1, .int .u64 a2, .int .u64 a3]) ∧ Bx Wz (w.heap.size + 1) (#[.int .u64 b0, .int .u64 b1, .int .u64 b2, .int .u64 b3]) ∧ Bx Wz (w.heap.size + 1 + 1) (#[.int .u64 0, .int .u64 0, .int .u64 0, .int .u64 0]) ∧ Bx Wz (w.heap.size + 1 + 1 + 1) (#[.int .u64 0, .int .u64 0, .int .u64 0, .int .u64 0, .int .u64 0, .int .u64 0, .int .u64 0, .int .u64 0])) ⟨by (repeat' (first | (with_reducible assumption) | (with_reducible exact Below.refl _ _) | (with_reducible refine Below.alloc ?_ ?_ _) | (with_reducible refine Below.setCell ?_ ?_ _) | (with_reducible refine Below.drew ?_) | (with_reducible refine below_more ?_ (by with_reducible assumption)) | go_size | omega | (with_reducible refine below_drewN ?_))), (by first | go_size | omega), Bx.of (by (repeat' (first | (with_reducible assumption) | ((with_reducible refine HB.new _ _ _ ?_) <;> (go_size; done)) | (with_reducible refine HB.old (by go_size) ?_) | (with_reducible refine HB.drew ?_) | (with_reducible refine HB.over5 ?_) | (with_reducible refine HB.over4 ?_) | (with_reducible refine HB.setne (by first | go_size | (dsimp only; omega)) ?_) | (with_reducible refine HN.set ?_) | (with_reducible refine HN.setne (by first | go_size | (dsimp only; omega)) ?_) | (with_reducible refine HN.drew ?_) | (with_reducible refine HN.old (by go_size) ?_) | (with_reducible exact HN.of5 (by assumption)) | (with_reducible exact HN.new5 _ _ (by go_size)) | (with_reducible exact HN.of4 (by assumption)) | (with_reducible exact HN.new4 _ _ (by go_size))))), Bx.of (by (repeat' (first | (with_reducible assumption) | ((with_reducible refine HB.new _ _ _ ?_) <;> (go_size; done)) | (with_reducible refine HB.old (by go_size) ?_) | (with_reducible refine HB.drew ?_) | (with_reducible refine HB.over5 ?_) | (with_reducible refine HB.over4 ?_) | (with_reducible refine HB.setne (by first | go_size | (dsimp only; omega)) ?_) | (with_reducible refine HN.set ?_) | (with_reducible refine HN.setne (by first | go_size | (dsimp only; omega)) ?_) | (with_reducible refine HN.drew ?_) | (with_reducible refine HN.old (by go_size) ?_) | (with_reducible exact HN.of5 (by assumption)) | (with_reducible exact HN.new5 _ _ (by go_size)) | (with_reducible exact HN.of4 (by assumption)) | (with_reducible exact HN.new4 _ _ (by go_size))))), Bx.of (by (repeat' (first | (with_reducible assumption) | ((with_reducible refine HB.new _ _ _ ?_) <;> (go_size; done)) | (with_reducible refine HB.old (by go_size) ?_) | (with_reducible refine HB.drew ?_) | (with_reducible refine HB.over5 ?_) | (with_reducible refine HB.over4 ?_) | (with_reducible refine HB.setne (by first | go_size | (dsimp only; omega)) ?_) | (with_reducible refine HN.set ?_) | (with_reducible refine HN.setne (by first | go_size | (dsimp only; omega)) ?_) | (with_reducible refine HN.drew ?_) | (with_reducible refine HN.old (by go_size) ?_) | (with_reducible exact HN.of5 (by assumption)) | (with_reducible exact HN.new5 _ _ (by go_size)) | (with_reducible exact HN.of4 (by assumption)) | (with_reducible exact HN.new4 _ _ (by go_size))))), Bx.of (by (repeat' (first | (with_reducible assumption) | ((with_reducible refine HB.new _ _ _ ?_) <;> (go_size; done)) | (with_reducible refine HB.old (by go_size) ?_) | (with_reducible refine HB.drew ?_) | (with_reducible refine HB.over5 ?_) | (with_reducible refine HB.over4 ?_) | (with_reducible refine HB.setne (by first | go_size | (dsimp only; omega)) ?_) | (with_reducible refine HN.set ?_) | (with_reducible refine HN.setne (by first | go_size | (dsimp only; omega)) ?_) | (with_reducible refine HN.drew ?_) | (with_reducible refine HN.old (by go_size) ?_) | (with_reducible exact HN.of5 (by assumption)) | (with_reducible exact HN.new5 _ _ (by go_size)) | (with_reducible exact HN.of4 (by assumption)) | (with_reducible exact HN.new4 _ _ (by go_size)))))⟩ ?_; rintro W0 ⟨hbw0, hnw0, ⟨B01, B01c, B01f, B01l⟩, ⟨B02, B02c, B02f, B02l⟩, ⟨B03, B03c, B03f, B03l⟩, ⟨B04, B04c, B04f, B04l⟩⟩
  refine wp_loop_rounds 5 ?_
  obtain ⟨w00, x00, A00, B00⟩ := X00.out
  rw [rounds_succ]
  go_wp2_with (go_at_call 66; refine (wmul64_any _ _ ha0 hb0 _).mono ?_; rintro e w' ⟨rfl, rfl⟩)
  clear w00 x00 A00 B00 X00
  obtain ⟨w01, x01, A01, B01⟩ := X01.out
  rw [rounds_succ]
  go_wp2_with (go_at_call 66; refine (wmul64_any _ _ ha0 hb1 _).mono ?_; rintro e w' ⟨rfl, rfl⟩)
  clear w01 x01 A01 B01 X01
  obtain ⟨w02, x02, A02, B02⟩ := X02.out
  rw [rounds_succ]
  go_wp2_with (go_at_call 66; refine (wmul64_any _ _ ha0 hb2 _).mono ?_; rintro e w' ⟨rfl, rfl⟩)
  clear w02 x02 A02 B02 X02
  obtain ⟨w03, x03, A03, B03⟩ := X03.out
  rw [rounds_succ]
  go_wp2_with (go_at_call 66; refine (wmul64_any _ _ ha0 hb3 _).mono ?_; rintro e w' ⟨rfl, rfl⟩)
  clear w03 x03 A03 B03 X03
  rw [rounds_succ]
  go_wp2
  rw [rounds_succ]
  go_wp2
  refine wp_gen (fun Wz => Below w.heap.size w Wz ∧ w.heap.size + 4 ≤ Wz.heap.size ∧ Bx Wz (w.heap.size) (#[.int .u64 a0, .int .u64 a1, .int .u64 a2, .int .u64 a3]) ∧ Bx Wz (w.heap.size + 1) (#[.int .u64 b0, .int .u64 b1, .int .u64 b2, .int .u64 b3]) ∧ Bx Wz (w.heap.size + 1 + 1) (#[.int .u64 0, .int .u64 0, .int .u64 0, .int .u64 0]) ∧ Bx Wz (w.heap.size + 1 + 1 + 1) (#[.int .u64 r00, .int .u64 r01, .int .u64 r02, .int .u64 r03, .int .u64 c03, .int .u64 0, .int .u64 0, .int .u64 0])) ⟨by (repeat' (first | (with_reducible assumption) | (with_reducible exact Below.refl _ _) | (with_reducible refine Below.alloc ?_ ?_ _) | (with_reducible refine Below.setCell ?_ ?_ _) | (with_reducible refine Below.drew ?_) | (with_reducible refine below_more ?_ (by with_reducible assumption)) | go_size | omega | (with_reducible refine below_drewN ?_))), (by first | go_size | omega), Bx.of (by (repeat' (first | (with_reducible assumption) | ((with_reducible refine HB.new _ _ _ ?_) <;> (go_size; done)) | (with_reducible refine HB.old (by go_size) ?_) | (with_reducible refine HB.drew ?_) | (with_reducible refine HB.over5 ?_) | (with_reducible refine HB.over4 ?_) | (with_reducible refine HB.setne (by first | go_size | (dsimp only; omega)) ?_) | (with_reducible refine HN.set ?_) | (with_reducible refine HN.setne (by first | go_size | (dsimp only; omega)) ?_) | (with_reducible refine HN.drew ?_) | (with_reducible refine HN.old (by go_size) ?_) | (with_reducible exact HN.of5 (by assumption)) | (with_reducible exact HN.new5 _ _ (by go_size)) | (with_reducible exact HN.of4 (by assumption)) | (with_reducible exact HN.new4 _ _ (by go_size))))), Bx.of (by (repeat' (first | (with_reducible assumption) | ((with_reducible refine HB.new _ _ _ ?_) <;> (go_size; done)) | (with_reducible refine HB.old (by go_size) ?_) | (with_reducible refine HB.drew ?_) | (with_reducible refine HB.over5 ?_) | (with_reducible refine HB.over4 ?_) | (with_reducible refine HB.setne (by first | go_size | (dsimp only; omega)) ?_) | (with_reducible refine HN.set ?_) | (with_reducible refine HN.setne (by first | go_size | (dsimp only; omega)) ?_) | (with_reducible refine HN.drew ?_) | (with_reducible refine HN.old (by go_size) ?_) | (with_reducible exact HN.of5 (by assumption)) | (with_reducible exact HN.new5 _ _ (by go_size)) | (with_reducible exact HN.of4 (by assumption)) | (with_reducible exact HN.new4 _ _ (by go_size))))), Bx.of (by (repeat' (first | (with_reducible assumption) | ((with_reducible refine HB.new _ _ _ ?_) <;> (go_size; done)) | (with_reducible refine HB.old (by go_size) ?_) | (with_reducible refine HB.drew ?_) | (with_reducible refine HB.over5 ?_) | (with_reducible refine HB.over4 ?_) | (with_reducible refine HB.setne (by first | go_size | (dsimp only; omega)) ?_) | (with_reducible refine HN.set ?_) | (with_reducible refine HN.setne (by first | go_size | (dsimp only; omega)) ?_) | (with_reducible refine HN.drew ?_) | (with_reducible refine HN.old (by go_size) ?_) | (with_reducible exact HN.of5 (by assumption)) | (with_reducible exact HN.new5 _ _ (by go_size)) | (with_reducible exact HN.of4 (by assumption)) | (with_reducible exact HN.new4 _ _ (by go_size))))), Bx.of (by have h2 := (HB.set (i := 4) (v := .int .u64 c03) (HB.set (i := 3) (v := .int .u64 r03) (HB.set (i := 2) (v := .int .u64 r02) (HB.set (i := 1) (v := .int .u64 r01) (HB.set (i := 0) (v := .int .u64 r00) B04 rfl) rfl) rfl) rfl) rfl); simpa only [List.setIfInBounds_toArray, List.set_cons_zero, List.set_cons_succ] using h2)⟩ ?_; rintro W1 ⟨hbw1, hnw1, ⟨B11, B11c, B11f, B11l⟩, ⟨B12, B12c, B12f, B12l⟩, ⟨B13, B13c, B13f, B13l⟩, ⟨B14, B14c, B14f, B14l⟩⟩
  clear B01 B01c B01f B01l B02 B02c B02f B02l B03 B03c B03f B03l B04 B04c B04f B04l
  refine wp_loop_rounds 5 ?_
  obtain ⟨w10, x10, A10, B10⟩ := X10.out
  rw [rounds_succ]
  go_wp2_with (go_at_call 66; refine (wmul64_any _ _ ha1 hb0 _).mono ?_; rintro e w' ⟨rfl, rfl⟩)
  clear w10 x10 A10 B10 X10
  obtain ⟨w11, x11, A11, B11⟩ := X11.out
  rw [rounds_succ]
  go_wp2_with (go_at_call 66; refine (wmul64_any _ _ ha1 hb1 _).mono ?_; rintro e w' ⟨rfl, rfl⟩)
  clear w11 x11 A11 B11 X11
  obtain ⟨w12, x12, A12, B12⟩ := X12.out
  rw [rounds_succ]
  go_wp2_with (go_at_call 66; refine (wmul64_any _ _ ha1 hb2 _).mono ?_; rintro e w' ⟨rfl, rfl⟩)
  clear w12 x12 A12 B12 X12
  obtain ⟨w13, x13, A13, B13⟩ := X13.out
  rw [rounds_succ]
  go_wp2_with (go_at_call 66; refine (wmul64_any _ _ ha1 hb3 _).mono ?_; rintro e w' ⟨rfl, rfl⟩)
  clear w13 x13 A13 B13 X13
  rw [rounds_succ]
  go_wp2
  rw [rounds_succ]
  go_wp2
  refine wp_gen (fun Wz => Below w.heap.size w Wz ∧ w.heap.size + 4 ≤ Wz.heap.size ∧ Bx Wz (w.heap.size) (#[.int .u64 a0, .int .u64 a1, .int .u64 a2, .int .u64 a3]) ∧ Bx Wz (w.heap.size + 1) (#[.int .u64 b0, .int .u64 b1, .int .u64 b2, .int .u64 b3]) ∧ Bx Wz (w.heap.size + 1 + 1) (#[.int .u64 0, .int .u64 0, .int .u64 0, .int .u64 0]) ∧ Bx Wz (w.heap.size + 1 + 1 + 1) (#[.int .u64 r00, .int .u64 r10, .int .u64 r11, .int .u64 r12, .int .u64 r13, .int .u64 c13, .int .u64 0, .int .u64 0])) ⟨by (repeat' (first | (with_reducible assumption) | (with_reducible exact Below.refl _ _) | (with_reducible refine Below.alloc ?_ ?_ _) | (with_reducible refine Below.setCell ?_ ?_ _) | (with_reducible refine Below.drew ?_) | (with_reducible refine below_more ?_ (by with_reducible assumption)) | go_size | omega | (with_reducible refine below_drewN ?_))), (by first | go_size | omega), Bx.of (by (repeat' (first | (with_reducible assumption) | ((with_reducible refine HB.new _ _ _ ?_) <;> (go_size; done)) | (with_reducible refine HB.old (by go_size) ?_) | (with_reducible refine HB.drew ?_) | (with_reducible refine HB.over5 ?_) | (with_reducible refine HB.over4 ?_) | (with_reducible refine HB.setne (by first | go_size | (dsimp only; omega)) ?_) | (with_reducible refine HN.set ?_) | (with_reducible refine HN.setne (by first | go_size | (dsimp only; omega)) ?_) | (with_reducible refine HN.drew ?_) | (with_reducible refine HN.old (by go_size) ?_) | (with_reducible exact HN.of5 (by assumption)) | (with_reducible exact HN.new5 _ _ (by go_size)) | (with_reducible exact HN.of4 (by assumption)) | (with_reducible exact HN.new4 _ _ (by go_size))))), Bx.of (by (repeat' (first | (with_reducible assumption) | ((with_reducible refine HB.new _ _ _ ?_) <;> (go_size; done)) | (with_reducible refine HB.old (by go_size) ?_) | (with_reducible refine HB.drew ?_) | (with_reducible refine HB.over5 ?_) | (with_reducible refine HB.over4 ?_) | (with_reducible refine HB.setne (by first | go_size | (dsimp only; omega)) ?_) | (with_reducible refine HN.set ?_) | (with_reducible refine HN.setne (by first | go_size | (dsimp only; omega)) ?_) | (with_reducible refine HN.drew ?_) | (with_reducible refine HN.old (by go_size) ?_) | (with_reducible exact HN.of5 (by assumption)) | (with_reducible exact HN.new5 _ _ (by go_size)) | (with_reducible exact HN.of4 (by assumption)) | (with_reducible exact HN.new4 _ _ (by go_size))))), Bx.of (by (repeat' (first | (with_reducible assumption) | ((with_reducible refine HB.new _ _ _ ?_) <;> (go_size; done)) | (with_reducible refine HB.old (by go_size) ?_) | (with_reducible refine HB.drew ?_) | (with_reducible refine HB.over5 ?_) | (with_reducible refine HB.over4 ?_) | (with_reducible refine HB.setne (by first | go_size | (dsimp only; omega)) ?_) | (with_reducible refine HN.set ?_) | (with_reducible refine HN.setne (by first | go_size | (dsimp only; omega)) ?_) | (with_reducible refine HN.drew ?_) | (with_reducible refine HN.old (by go_size) ?_) | (with_reducible exact HN.of5 (by assumption)) | (with_reducible exact HN.new5 _ _ (by go_size)) | (with_reducible exact HN.of4 (by assumption)) | (with_reducible exact HN.new4 _ _ (by go_size))))), Bx.of (by have h2 := (HB.set (i := 5) (v := .int .u64 c13) (HB.set (i := 4) (v := .int .u64 r13) (HB.set (i := 3) (v := .int .u64 r12) (HB.set (i := 2) (v := .int .u64 r11) (HB.set (i := 1) (v := .int .u64 r10) B14 rfl) rfl) rfl) rfl) rfl); simpa only [List.setIfInBounds_toArray, List.set_cons_zero, List.set_cons_succ] using h2)⟩ ?_; rintro W2 ⟨hbw2, hnw2, ⟨B21, B21c, B21f, B21l⟩, ⟨B22, B22c, B22f, B22l⟩, ⟨B23, B23c, B23f, B23l⟩, ⟨B24, B24c, B24f, B24l⟩⟩
  clear B11 B11c B11f B11l B12 B12c B12f B12l B13 B13c B13f B13l B14 B14c B14f B14l
  refine wp_loop_rounds 5 ?_
  obtain ⟨w20, x20, A20, B20⟩ := X20.out
  rw [rounds_succ]
  go_wp2_with (go_at_call 66; refine (wmul64_any _ _ ha2 hb0 _).mono ?_; rintro e w' ⟨rfl, rfl⟩)
  clear w20 x20 A20 B20 X20
  obtain ⟨w21, x21, A21, B21⟩ := X21.out
  rw [rounds_succ]
  go_wp2_with (go_at_call 66; refine (wmul64_any _ _ ha2 hb1 _).mono ?_; rintro e w' ⟨rfl, rfl⟩)
  clear w21 x21 A21 B21 X21
  obtain ⟨w22, x22, A22, B22⟩ := X22.out
  rw [rounds_succ]
  go_wp2_with (go_at_call 66; refine (wmul64_any _ _ ha2 hb2 _).mono ?_; rintro e w' ⟨rfl, rfl⟩)
  clear w22 x22 A22 B22 X22
  obtain ⟨w23, x23, A23, B23⟩ := X23.out
  rw [rounds_succ]
  go_wp2_with (go_at_call 66; refine (wmul64_any _ _ ha2 hb3 _).mono ?_; rintro e w' ⟨rfl, rfl⟩)
  clear w23 x23 A23 B23 X23
  rw [rounds_succ]
  go_wp2
  rw [rounds_succ]
  go_wp2
  refine wp_gen (fun Wz => Below w.heap.size w Wz ∧ w.heap.size + 4 ≤ Wz.heap.size ∧ Bx Wz (w.heap.size) (#[.int .u64 a0, .int .u64 a1, .int .u64 a2, .int .u64 a3]) ∧ Bx Wz (w.heap.size + 1) (#[.int .u64 b0, .int .u64 b1, .int .u64 b2, .int .u64 b3]) ∧ Bx Wz (w.heap.size + 1 + 1) (#[.int .u64 0, .int .u64 0, .int .u64 0, .int .u64 0]) ∧ Bx Wz (w.heap.size + 1 + 1 + 1) (#[.int .u64 r00, .int .u64 r10, .int .u64 r20, .int .u64 r21, .int .u64 r22, .int .u64 r23, .int .u64 c23, .int .u64 0])) ⟨by (repeat' (first | (with_reducible assumption) | (with_reducible exact Below.refl _ _) | (with_reducible refine Below.alloc ?_ ?_ _) | (with_reducible refine Below.setCell ?_ ?_ _) | (with_reducible refine Below.drew ?_) | (with_reducible refine below_more ?_ (by with_reducible assumption)) | go_size | omega | (with_reducible refine below_drewN ?_))), (by first | go_size | omega), Bx.of (by (repeat' (first | (with_reducible assumption) | ((with_reducible refine HB.new _ _ _ ?_) <;> (go_size; done)) | (with_reducible refine HB.old (by go_size) ?_) | (with_reducible refine HB.drew ?_) | (with_reducible refine HB.over5 ?_) | (with_reducible refine HB.over4 ?_) | (with_reducible refine HB.setne (by first | go_size | (dsimp only; omega)) ?_) | (with_reducible refine HN.set ?_) | (with_reducible refine HN.setne (by first | go_size | (dsimp only; omega)) ?_) | (with_reducible refine HN.drew ?_) | (with_reducible refine HN.old (by go_size) ?_) | (with_reducible exact HN.of5 (by assumption)) | (with_reducible exact HN.new5 _ _ (by go_size)) | (with_reducible exact HN.of4 (by assumption)) | (with_reducible exact HN.new4 _ _ (by go_size))))), Bx.of (by (repeat' (first | (with_reducible assumption) | ((with_reducible refine HB.new _ _ _ ?_) <;> (go_size; done)) | (with_reducible refine HB.old (by go_size) ?_) | (with_reducible refine HB.drew ?_) | (with_reducible refine HB.over5 ?_) | (with_reducible refine HB.over4 ?_) | (with_reducible refine HB.setne (by first | go_size | (dsimp only; omega)) ?_) | (with_reducible refine HN.set ?_) | (with_reducible refine HN.setne (by first | go_size | (dsimp only; omega)) ?_) | (with_reducible refine HN.drew ?_) | (with_reducible refine HN.old (by go_size) ?_) | (with_reducible exact HN.of5 (by assumption)) | (with_reducible exact HN.new5 _ _ (by go_size)) | (with_reducible exact HN.of4 (by assumption)) | (with_reducible exact HN.new4 _ _ (by go_size))))), Bx.of (by (repeat' (first | (with_reducible assumption) | ((with_reducible refine HB.new _ _ _ ?_) <;> (go_size; done)) | (with_reducible refine HB.old (by go_size) ?_) | (with_reducible refine HB.drew ?_) | (with_reducible refine HB.over5 ?_) | (with_reducible refine HB.over4 ?_) | (with_reducible refine HB.setne (by first | go_size | (dsimp only; omega)) ?_) | (with_reducible refine HN.set ?_) | (with_reducible refine HN.setne (by first | go_size | (dsimp only; omega)) ?_) | (with_reducible refine HN.drew ?_) | (with_reducible refine HN.old (by go_size) ?_) | (with_reducible exact HN.of5 (by assumption)) | (with_reducible exact HN.new5 _ _ (by go_size)) | (with_reducible exact HN.of4 (by assumption)) | (with_reducible exact HN.new4 _ _ (by go_size))))), Bx.of (by have h2 := (HB.set (i := 6) (v := .int .u64 c23) (HB.set (i := 5) (v := .int .u64 r23) (HB.set (i := 4) (v := .int .u64 r22) (HB.set (i := 3) (v := .int .u64 r21) (HB.set (i := 2) (v := .int .u64 r20) B24 rfl) rfl) rfl) rfl) rfl); simpa only [List.setIfInBounds_toArray, List.set_cons_zero, List.set_cons_succ] using h2)⟩ ?_; rintro W3 ⟨hbw3, hnw3, ⟨B31, B31c, B31f, B31l⟩, ⟨B32, B32c, B32f, B32l⟩, ⟨B33, B33c, B33f, B33l⟩, ⟨B34, B34c, B34f, B34l⟩⟩
  clear B21 B21c B21f B21l B22 B22c B22f B22l B23 B23c B23f B23l B24 B24c B24f B24l
  refine wp_loop_rounds 5 ?_
  obtain ⟨w30, x30, A30, B30⟩ := X30.out
  rw [rounds_succ]
  go_wp2_with (go_at_call 66; refine (wmul64_any _ _ ha3 hb0 _).mono ?_; rintro e w' ⟨rfl, rfl⟩)
  clear w30 x30 A30 B30 X30
  obtain ⟨w31, x31, A31, B31⟩ := X31.out
  rw [rounds_succ]
  go_wp2_with (go_at_call 66; refine (wmul64_any _ _ ha3 hb1 _).mono ?_; rintro e w' ⟨rfl, rfl⟩)
  clear w31 x31 A31 B31 X31
  obtain ⟨w32, x32, A32, B32⟩ := X32.out
  rw [rounds_succ]
  go_wp2_with (go_at_call 66; refine (wmul64_any _ _ ha3 hb2 _).mono ?_; rintro e w' ⟨rfl, rfl⟩)
  clear w32 x32 A32 B32 X32
  obtain ⟨w33, x33, A33, B33⟩ := X33.out
  rw [rounds_succ]
  go_wp2_with (go_at_call 66; refine (wmul64_any _ _ ha3 hb3 _).mono ?_; rintro e w' ⟨rfl, rfl⟩)
  clear w33 x33 A33 B33 X33
  rw [rounds_succ]
  go_wp2
  rw [rounds_succ]
  go_wp2
  refine wp_gen (fun Wz => Below w.heap.size w Wz ∧ w.heap.size + 4 ≤ Wz.heap.size ∧ Bx Wz (w.heap.size + 1 + 1) (#[.int .u64 0, .int .u64 0, .int .u64 0, .int .u64 0]) ∧ Bx Wz (w.heap.size + 1 + 1 + 1) (#[.int .u64 r00, .int .u64 r10, .int .u64 r20, .int .u64 r30, .int .u64 r31, .int .u64 r32, .int .u64 r33, .int .u64 c33])) ⟨by (repeat' (first | (with_reducible assumption) | (with_reducible exact Below.refl _ _) | (with_reducible refine Below.alloc ?_ ?_ _) | (with_reducible refine Below.setCell ?_ ?_ _) | (with_reducible refine Below.drew ?_) | (with_reducible refine below_more ?_ (by with_reducible assumption)) | go_size | omega | (with_reducible refine below_drewN ?_))), (by first | go_size | omega), Bx.of (by (repeat' (first | (with_reducible assumption) | ((with_reducible refine HB.new _ _ _ ?_) <;> (go_size; done)) | (with_reducible refine HB.old (by go_size) ?_) | (with_reducible refine HB.drew ?_) | (with_reducible refine HB.over5 ?_) | (with_reducible refine HB.over4 ?_) | (with_reducible refine HB.setne (by first | go_size | (dsimp only; omega)) ?_) | (with_reducible refine HN.set ?_) | (with_reducible refine HN.setne (by first | go_size | (dsimp only; omega)) ?_) | (with_reducible refine HN.drew ?_) | (with_reducible refine HN.old (by go_size) ?_) | (with_reducible exact HN.of5 (by assumption)) | (with_reducible exact HN.new5 _ _ (by go_size)) | (with_reducible exact HN.of4 (by assumption)) | (with_reducible exact HN.new4 _ _ (by go_size))))), Bx.of (by have h2 := (HB.set (i := 7) (v := .int .u64 c33) (HB.set (i := 6) (v := .int .u64 r33) (HB.set (i := 5) (v := .int .u64 r32) (HB.set (i := 4) (v := .int .u64 r31) (HB.set (i := 3) (v := .int .u64 r30) B34 rfl) rfl) rfl) rfl) rfl); simpa only [List.setIfInBounds_toArray, List.set_cons_zero, List.set_cons_succ] using h2)⟩ ?_; rintro W4 ⟨hbw4, hnw4, ⟨B41, B41c, B41f, B41l⟩, ⟨B42, B42c, B42f, B42l⟩⟩
  clear B31 B31c B31f B31l B32 B32c B32f B32l B33 B33c B33f B33l B34 B34c B34f B34l
  clear IA0 IA1 IA2 IA3 IB0 IB1 IB2 IB3
  have CP := copy4 (W := W4.drew) (w.heap.size + 1 + 1) (w.heap.size + 1 + 1 + 1) (HN.of4 (HB.drew B41)) (HB.drew B42)
  go_region
  clear CP
  go_wp2_with fail
  refine wp_gen (fun Wz => Below w.heap.size w Wz ∧ w.heap.size + 4 ≤ Wz.heap.size ∧ Bx Wz (w.heap.size + 1 + 1) (#[.int .u64 r00, .int .u64 r10, .int .u64 r20, .int .u64 r30]) ∧ Bx Wz (w.heap.size + 1 + 1 + 1) (#[.int .u64 r00, .int .u64 r10, .int .u64 r20, .int .u64 r30, .int .u64 r31, .int .u64 r32, .int .u64 r33, .int .u64 c33])) ⟨by (repeat' (first | (with_reducible assumption) | (with_reducible exact Below.refl _ _) | (with_reducible refine Below.alloc ?_ ?_ _) | (with_reducible refine Below.setCell ?_ ?_ _) | (with_reducible refine Below.drew ?_) | (with_reducible refine below_more ?_ (by with_reducible assumption)) | go_size | omega | (with_reducible refine below_drewN ?_))), (by first | go_size | omega), Bx.of (by (repeat' (first | (with_reducible assumption) | ((with_reducible refine HB.new _ _ _ ?_) <;> (go_size; done)) | (with_reducible refine HB.old (by go_size) ?_) | (with_reducible refine HB.drew ?_) | (with_reducible refine HB.over5 ?_) | (with_reducible refine HB.over4 ?_) | (with_reducible refine HB.setne (by first | go_size | (dsimp only; omega)) ?_) | (with_reducible refine HN.set ?_) | (with_reducible refine HN.setne (by first | go_size | (dsimp only; omega)) ?_) | (with_reducible refine HN.drew ?_) | (with_reducible refine HN.old (by go_size) ?_) | (with_reducible exact HN.of5 (by assumption)) | (with_reducible exact HN.new5 _ _ (by go_size)) | (with_reducible exact HN.of4 (by assumption)) | (with_reducible exact HN.new4 _ _ (by go_size))))), Bx.of (by (repeat' (first | (with_reducible assumption) | ((with_reducible refine HB.new _ _ _ ?_) <;> (go_size; done)) | (with_reducible refine HB.old (by go_size) ?_) | (with_reducible refine HB.drew ?_) | (with_reducible refine HB.over5 ?_) | (with_reducible refine HB.over4 ?_) | (with_reducible refine HB.setne (by first | go_size | (dsimp only; omega)) ?_) | (with_reducible refine HN.set ?_) | (with_reducible refine HN.setne (by first | go_size | (dsimp only; omega)) ?_) | (with_reducible refine HN.drew ?_) | (with_reducible refine HN.old (by go_size) ?_) | (with_reducible exact HN.of5 (by assumption)) | (with_reducible exact HN.new5 _ _ (by go_size)) | (with_reducible exact HN.of4 (by assumption)) | (with_reducible exact HN.new4 _ _ (by go_size)))))⟩ ?_; rintro W5 ⟨hbw5, hnw5, ⟨B51, B51c, B51f, B51l⟩, ⟨B52, B52c, B52f, B52l⟩⟩
  clear B41 B41c B41f B41l B42 B42c B42f B42l
  have E := fun W => eq_mag r31 r32 r33 c33 0 0 0 0 9998 W
  have AR := fun W => arr4 (w.heap.size + 1 + 1 + 1) 4 W
  go_region
  clear E AR
  (repeat' (first | go_values | go_skip | go_guarded | go_step | go_upon | (simp only [Int.not_lt, Int.not_le] at *; go_simp) | (go_values <;> (try go_simp)) | (go_ite <;> go_prune <;> (try go_simp)) | (split <;> (first | (rename_i hx; exact (hx _ rfl).elim) | go_prune))))
  refine bodyPost_ret (v := .tuple #[MG r00 r10 r20 r30, .bool (mz r31 r32 r33 c33)]) ?_ rfl ⟨rfl, by (repeat' (first | (with_reducible assumption) | (with_reducible exact Below.refl _ _) | (with_reducible refine Below.alloc ?_ ?_ _) | (with_reducible refine Below.setCell ?_ ?_ _) | (with_reducible refine Below.drew ?_) | (with_reducible refine below_more ?_ (by with_reducible assumption)) | go_size | omega | (with_reducible refine below_drewN ?_)))⟩
  simp [results, Try.results79, go_sem, B51c, B51f, B51l, mz]
end Go.Proofs.Ythcboomdkpiflaa

/- RefB: The reference of wide, continued: sums, differences, products of lists of words. -/
namespace Go.Proofs.Ythcboomdkpiflaa
open Go.ChangeShapes Go.WideShapes Go.ChangeAt Go.RowKit
set_option linter.unusedVariables false
set_option linter.unusedSimpArgs false
theorem OwnU.slice {w : World} {base : Nat} {v : Value} {ws : List Int} (h : OwnU w base v ws) : ∃ a cap, v = .slice a ws.length cap := by
  rcases h.form with ⟨rfl, rfl⟩ | ⟨g, cap, rfl, _⟩
  · exact ⟨none, 0, rfl⟩
  · exact ⟨_, cap, rfl⟩
theorem OwnU.at_ {w : World} {base : Nat} {a : Option Addr} {n cap : Nat} {ws : List Int} (h : OwnU w base (.slice a n cap) ws) (hp : 0 < ws.length) :
    ∃ g, a = some ⟨g, 0, none⟩ ∧ n = ws.length ∧ base ≤ g ∧ g < w.heap.size ∧ n ≤ cap ∧ cap ≤ 9223372036854775807 ∧ (∀ j, j < ws.length → w.cell? ⟨g, j, none⟩ = some (.int .u64 (ws.getD j 0))) ∧ (∀ j, w.frozen? ⟨g, j, none⟩ = false) := by
  rcases h.form with ⟨_, rfl⟩ | ⟨g, cap', e, h1, h2, h3, h4, h5, h6⟩
  · simp at hp
  · injection e with e1 e2 e3
    subst e1 e2 e3
    exact ⟨g, rfl, rfl, h1, h2, h3, by simpa [maxLen] using h4, h5, h6⟩
theorem SlU.at_ {w : World} {a : Option Addr} {n cap : Nat} {ws : List Int} (h : SlU w (.slice a n cap) ws) {i : Nat} (hi : i < n) :
    ∃ b off, a = some ⟨b, off, none⟩ ∧ b < w.heap.size ∧ n ≤ cap ∧ cap ≤ 9223372036854775807 ∧ w.cell? ⟨b, off + i, none⟩ = some (.int .u64 (ws.getD i 0)) := by
  obtain ⟨a', len, cap', e, h1, h2, h3, h4, h5⟩ := h
  cases e
  obtain ⟨b, off, rfl, hlt, hc⟩ := h5 (by omega)
  exact ⟨b, off, rfl, hlt, h2, h3, hc i hi⟩
theorem SlU.len {w : World} {a : Option Addr} {n cap : Nat} {ws : List Int} (h : SlU w (.slice a n cap) ws) : ws.length = n ∧ n ≤ cap ∧ cap ≤ 9223372036854775807 := by
  obtain ⟨a', len, cap', e, h1, h2, h3, h4, h5⟩ := h
  cases e
  exact ⟨h1, h2, h3⟩
/-- After i rounds of the sum. -/
def AddI (A B os : List Int) (i : Nat) (c : Int) : Prop := Bit c ∧ os.length = A.length ∧ VL (os.take i) + pw i * c = TV A i + TV B i ∧ ∀ j, i ≤ j → os.getD j 0 = A.getD j 0
theorem take_set_succ (os : List Int) {i : Nat} (hi : i < os.length) (s : Int) : (os.set i s).take (i + 1) = os.take i ++ [s] := by
  rw [take_snocD _ i (by rw [List.length_set]; exact hi), List.take_set_of_le (Nat.le_refl _)]
  congr 1
  rw [List.getD_eq_getElem?_getD, List.getElem?_set_self hi]; rfl
theorem getD_set_gt (os : List Int) {i j : Nat} (h : i < j) (s : Int) : (os.set i s).getD j 0 = os.getD j 0 := by
  rw [List.getD_eq_getElem?_getD, List.getD_eq_getElem?_getD, List.getElem?_set_ne (by omega)]
theorem AddI.step {A B os : List Int} {i : Nat} {c : Int} (hA : Ws A) (hB : Ws B) (h : AddI A B os i c) (hi : i < A.length) : AddI A B (os.set i (s64 (os.getD i 0) (B.getD i 0) c)) (i + 1) (c64 (os.getD i 0) (B.getD i 0) c) := by
  obtain ⟨h1, h2, h3, h4⟩ := h
  have e := h4 i (Nat.le_refl _)
  refine ⟨c64_bit (by rw [e]; exact hA.getD i) (hB.getD i) h1, by rw [List.length_set]; exact h2, ?_, fun j hj => by rw [getD_set_gt os (by omega)]; exact h4 j (by omega)⟩
  rw [take_set_succ os (by omega), VL_snoc, List.length_take, Nat.min_eq_left (by omega), TV_succ, TV_succ, pw_succ]
  have := add_round (s64_sum (os.getD i 0) (B.getD i 0) c) h3
  rw [e] at this ⊢
  exact this
theorem AddI.done {A B os : List Int} {c : Int} (h : AddI A B os A.length c) (hl : B.length ≤ A.length) : VL (os ++ [c]) = VL A + VL B := by
  obtain ⟨h1, h2, h3, h4⟩ := h
  rw [VL_snoc, h2, ← TV_all A A.length (Nat.le_refl _), ← TV_all B A.length hl]
  rw [List.take_of_length_le (by omega)] at h3
  exact h3
set_option maxHeartbeats 1000000 in
set_option maxRecDepth 100000 in
theorem radd_any (a a' : Option Addr) (len cap len' cap' : Nat) (m n : Int) (hm : 0 ≤ m) (hn : 0 ≤ n) (hs : len ≤ 1000) (hs' : len' ≤ 1000) (w : World) (h : SlU w (.slice a len cap) (wl m)) (h' : SlU w (.slice a' len' cap') (wl n)) :
    Calls Try.prog 50 #[.slice a len cap, .slice a' len' cap'] w (MagP w (m + n)) := by
  obtain ⟨i0, hi, hz0, hz1, hz2⟩ := info_u
  obtain ⟨l1, l2, l3⟩ := h.len
  obtain ⟨g1, g2, g3⟩ := h'.len
  by_cases hlt : len < len'
  · have t1 : decide ((len : Int) < (len' : Int)) = true := dT (by omega)
    have t2 : decide (len < len') = true := dT hlt
    have H := hid (And.intro h' (And.intro h (And.intro g1 (And.intro l1 (And.intro l2 (And.intro l3 (And.intro g2 g3)))))))
    clear h h' l1 g1 l2 l3 g2 g3
    go_enter Try.func50, Try.ntmps50
    go_wp2_with (at_builtin; (refine wpList_append_u (ws := []) (ms := wl n) (v := .slice (some ⟨w.heap.size, 0, none⟩) 0 0) (src := .slice a' len' cap') _ rfl (.tmp 16) (.tmp 17) 73 73 rfl w.heap.size Try.underlying73 Try.underlying73 hi hz0 hz1 hz2 rfl rfl ?own ?src ?small ?base ?_); rotate_right; intro v1 w1 hown hg hat)
    case own => exact OwnU.empty w _ rfl rfl (Nat.le_refl _)
    case src => exact H.out.1.alloc _
    case small => have := H.out.2.2.1; simp only [List.length_nil]; omega
    case base => simp
    have hb1 : Below w.heap.size w w1 := ((Below.refl _ w).alloc (Nat.le_refl _) _).grown hg (by simp) (fun k e => by simp [Value.ownBlock] at e; omega)
    clear hg hat
    simp only [List.nil_append] at hown
    obtain ⟨a1, c1, rfl⟩ := hown.slice
    rw [H.out.2.2.1] at hown ⊢
    have HO := hid (And.intro hown hb1)
    clear hown hb1
    have hxl : (0 : Int) ≤ (len' : Int) := Int.natCast_nonneg _
    go_loopw [6, 7, 8] (fun c i x wr => ∃ (q : Nat) (cy : Int) (os : List Int), q ≤ len' ∧ c = .int .u64 cy ∧ i = .int .i64 q ∧ Hid (AddI (wl n) (wl m) os q cy ∧ OwnU wr w.heap.size (.slice a1 len' c1) os ∧ Below w.heap.size w wr)) (fun _ i _ _ => len' - (intOf i).toNat)
    case atStart => exact ⟨0, 0, wl n, Nat.zero_le _, rfl, rfl, hid ⟨⟨Bit.zero, rfl, by simp [TV_zero, pw, VL], fun j _ => rfl⟩, HO.out.1, HO.out.2⟩⟩
    case round =>
      obtain ⟨q, cy, os, hq, rfl, rfl, HI⟩ := hrel
      by_cases hql : q < len'
      · obtain ⟨hI, hown, hb0⟩ := HI.out
        have hol : os.length = len' := hI.2.1.trans H.out.2.2.1
        obtain ⟨g, rfl, -, e3, e4, e5, e6, e7, e8⟩ := hown.at_ (by omega)
        have hc := e7 q (by omega)
        have hf := e8 q
        clear e7 e8
        have hq0 : (0 : Int) ≤ (q : Int) := Int.natCast_nonneg _
        have hq1 : (q : Int) < (len' : Int) := by omega
        have hST := hI.step (wl_words _) (wl_words _) (by rw [H.out.2.2.1]; exact hql)
        have A1 := fun W => add64 (x := os.getD q 0) (y := (wl m).getD q 0) (c := cy) (hown.2.getD q) ((wl_words _).getD q) hI.1 W
        have hOS := hown.stored (x := s64 (os.getD q 0) ((wl m).getD q 0) cy) (by omega) q (by omega) (s64_in _ _ _)
        have HN := hid (And.intro hST (And.intro hOS hb0))
        clear hST hOS hI hown hol
        by_cases hqy : q < len
        · obtain ⟨b, off, rfl, f1, f2, f3, f4⟩ := (H.out.2.1).at_ hqy
          have hcy := (hb0.cell (p := ⟨b, off + q, none⟩) f1).trans f4
          have hq2 : (q : Int) < (len : Int) := by omega
          clear f4
          generalize s64 (os.getD q 0) ((wl m).getD q 0) cy = s at *
          generalize c64 (os.getD q 0) ((wl m).getD q 0) cy = cz at *
          generalize os.getD q 0 = x at *
          generalize (wl m).getD q 0 = y at *
          clear hb0
          go_wp2
          go_roundw
          case rel => exact ⟨q + 1, _, os.set q s, by omega, rfl, by go_num, hid ⟨HN.out.1, HN.out.2.1, by have hb0 := HN.out.2.2; (repeat' (first | (with_reducible assumption) | (with_reducible exact Below.refl _ _) | (with_reducible refine Below.alloc ?_ ?_ _) | (with_reducible refine Below.setCell ?_ ?_ _) | (with_reducible refine Below.drew ?_) | (with_reducible refine below_more ?_ (by with_reducible assumption)) | go_size | omega | (with_reducible refine below_drewN ?_)))⟩⟩
          case measure => simp [intOf]; omega
        · have e0 : (wl m).getD q 0 = 0 := by
            rw [List.getD_eq_getElem?_getD, List.getElem?_eq_none (by rw [H.out.2.2.2.1]; omega)]; rfl
          rw [e0] at A1 HN
          clear e0 hb0
          have hq2 : decide ((q : Int) < (len : Int)) = false := dF (by omega)
          have hq3 : decide (q < len) = false := dF (by omega)
          generalize s64 (os.getD q 0) 0 cy = s at *
          generalize c64 (os.getD q 0) 0 cy = cz at *
          generalize os.getD q 0 = x at *
          go_wp2
          go_roundw
          case rel => exact ⟨q + 1, _, os.set q s, by omega, rfl, by go_num, hid ⟨HN.out.1, HN.out.2.1, by have hb0 := HN.out.2.2; (repeat' (first | (with_reducible assumption) | (with_reducible exact Below.refl _ _) | (with_reducible refine Below.alloc ?_ ?_ _) | (with_reducible refine Below.setCell ?_ ?_ _) | (with_reducible refine Below.drew ?_) | (with_reducible refine below_more ?_ (by with_reducible assumption)) | go_size | omega | (with_reducible refine below_drewN ?_)))⟩⟩
          case measure => simp [intOf]; omega
      · obtain rfl : q = len' := by omega
        obtain ⟨hI, hown, hb0⟩ := HI.out
        have hol : os.length = q := hI.2.1.trans H.out.2.2.1
        have hbit := hI.1
        have eV : VL (os ++ [cy]) = m + n := by
          rw [AddI.done (A := wl n) (B := wl m) (by rw [H.out.2.2.1]; exact hI) (by rw [H.out.2.2.1, H.out.2.2.2.1]; omega), VL_wl (by omega), VL_wl (by omega)]
          try omega
        have HV := hid (And.intro eV hol)
        have HO2 := hid (And.intro hown (And.intro hb0 hbit))
        clear eV hol
        have hsz := hb0.size
        clear HO HI hI hown hb0 hbit
        go_wp2_with (at_builtin; (refine wpList_append_u (ws := os) (ms := [cy]) (v := .slice a1 q c1) (src := .slice (some ⟨wr.heap.size, 0, none⟩) 1 1) _ rfl (.tmp 46) (.tmp 48) 73 73 rfl w.heap.size Try.underlying73 Try.underlying73 hi hz0 hz1 hz2 rfl rfl ?own ?src ?small ?base ?_); rotate_right; intro v2 w2 hown hg hat)
        case own => exact HO2.out.1.below ((Below.refl _ _).alloc (Nat.le_refl _) _)
        case src => exact (OwnU.lit wr [cy] (Ws.one ⟨by have := HO2.out.2.2.1; omega, by have := HO2.out.2.2.2; omega⟩) _ rfl (by simp [maxLen])).sl
        case small => have := HV.out.2; simp; omega
        case base => simp; omega
        have hb2 : Below w.heap.size w w2 := ((HO2.out.2.1).alloc hsz _).grown hg (by simp; omega) (fun k e => by
          have := ((HO2.out.1).1.lt k e).1; exact this)
        clear hg hat
        obtain ⟨a2, c2, rfl⟩ := hown.slice
        have hs2 := hown.sl
        have eV := HV.out.1
        have HC := hid (And.intro (SlF.canon (base := w.heap.size) ⟨hs2, hown.fr (by first | exact Nat.le_refl _ | (simp; done) | (simp; omega))⟩) (And.intro hb2 eV))
        clear hown hb2 eV HV HO2
        (repeat' (first | (go_big_may; (first | (go_at_call 65; refine (rtrim_any _ _ _ _ _ hs2).mono ?_; rintro e w' ⟨rfl, rfl⟩))) | go_values | go_skip | go_guarded | go_step | go_upon | (simp only [Int.not_lt, Int.not_le] at *; go_simp) | (go_values <;> (try go_simp)) | (go_ite <;> go_prune <;> (try go_simp)) | (split <;> (first | (rename_i hx; exact (hx _ rfl).elim) | go_prune))))
        go_ret
        obtain ⟨hc, hb2, eV⟩ := HC.out
        refine ⟨.slice a2 (wl (VL (os ++ [cy]))).length c2, rfl, ?_, hb2⟩
        rw [eV] at hc ⊢
        exact hc
  · have t1 : decide ((len : Int) < (len' : Int)) = false := dF (by omega)
    have t2 : decide (len < len') = false := dF hlt
    have H := hid (And.intro h (And.intro h' (And.intro l1 (And.intro g1 (And.intro l2 (And.intro l3 (And.intro g2 g3)))))))
    clear h h' l1 g1 l2 l3 g2 g3
    go_enter Try.func50, Try.ntmps50
    go_wp2_with (at_builtin; (refine wpList_append_u (ws := []) (ms := wl m) (v := .slice (some ⟨w.heap.size, 0, none⟩) 0 0) (src := .slice a len cap) _ rfl (.tmp 16) (.tmp 17) 73 73 rfl w.heap.size Try.underlying73 Try.underlying73 hi hz0 hz1 hz2 rfl rfl ?own ?src ?small ?base ?_); rotate_right; intro v1 w1 hown hg hat)
    case own => exact OwnU.empty w _ rfl rfl (Nat.le_refl _)
    case src => exact H.out.1.alloc _
    case small => have := H.out.2.2.1; simp only [List.length_nil]; omega
    case base => simp
    have hb1 : Below w.heap.size w w1 := ((Below.refl _ w).alloc (Nat.le_refl _) _).grown hg (by simp) (fun k e => by simp [Value.ownBlock] at e; omega)
    clear hg hat
    simp only [List.nil_append] at hown
    obtain ⟨a1, c1, rfl⟩ := hown.slice
    rw [H.out.2.2.1] at hown ⊢
    have HO := hid (And.intro hown hb1)
    clear hown hb1
    have hxl : (0 : Int) ≤ (len : Int) := Int.natCast_nonneg _
    go_loopw [6, 7, 8] (fun c i x wr => ∃ (q : Nat) (cy : Int) (os : List Int), q ≤ len ∧ c = .int .u64 cy ∧ i = .int .i64 q ∧ Hid (AddI (wl m) (wl n) os q cy ∧ OwnU wr w.heap.size (.slice a1 len c1) os ∧ Below w.heap.size w wr)) (fun _ i _ _ => len - (intOf i).toNat)
    case atStart => exact ⟨0, 0, wl m, Nat.zero_le _, rfl, rfl, hid ⟨⟨Bit.zero, rfl, by simp [TV_zero, pw, VL], fun j _ => rfl⟩, HO.out.1, HO.out.2⟩⟩
    case round =>
      obtain ⟨q, cy, os, hq, rfl, rfl, HI⟩ := hrel
      by_cases hql : q < len
      · obtain ⟨hI, hown, hb0⟩ := HI.out
        have hol : os.length = len := hI.2.1.trans H.out.2.2.1
        obtain ⟨g, rfl, -, e3, e4, e5, e6, e7, e8⟩ := hown.at_ (by omega)
        have hc := e7 q (by omega)
        have hf := e8 q
        clear e7 e8
        have hq0 : (0 : Int) ≤ (q : Int) := Int.natCast_nonneg _
        have hq1 : (q : Int) < (len : Int) := by omega
        have hST := hI.step (wl_words _) (wl_words _) (by rw [H.out.2.2.1]; exact hql)
        have A1 := fun W => add64 (x := os.getD q 0) (y := (wl n).getD q 0) (c := cy) (hown.2.getD q) ((wl_words _).getD q) hI.1 W
        have hOS := hown.stored (x := s64 (os.getD q 0) ((wl n).getD q 0) cy) (by omega) q (by omega) (s64_in _ _ _)
        have HN := hid (And.intro hST (And.intro hOS hb0))
        clear hST hOS hI hown hol
        by_cases hqy : q < len'
        · obtain ⟨b, off, rfl, f1, f2, f3, f4⟩ := (H.out.2.1).at_ hqy
          have hcy := (hb0.cell (p := ⟨b, off + q, none⟩) f1).trans f4
          have hq2 : (q : Int) < (len' : Int) := by omega
          clear f4
          generalize s64 (os.getD q 0) ((wl n).getD q 0) cy = s at *
          generalize c64 (os.getD q 0) ((wl n).getD q 0) cy = cz at *
          generalize os.getD q 0 = x at *
          generalize (wl n).getD q 0 = y at *
          clear hb0
          go_wp2
          go_roundw
          case rel => exact ⟨q + 1, _, os.set q s, by omega, rfl, by go_num, hid ⟨HN.out.1, HN.out.2.1, by have hb0 := HN.out.2.2; (repeat' (first | (with_reducible assumption) | (with_reducible exact Below.refl _ _) | (with_reducible refine Below.alloc ?_ ?_ _) | (with_reducible refine Below.setCell ?_ ?_ _) | (with_reducible refine Below.drew ?_) | (with_reducible refine below_more ?_ (by with_reducible assumption)) | go_size | omega | (with_reducible refine below_drewN ?_)))⟩⟩
          case measure => simp [intOf]; omega
        · have e0 : (wl n).getD q 0 = 0 := by
            rw [List.getD_eq_getElem?_getD, List.getElem?_eq_none (by rw [H.out.2.2.2.1]; omega)]; rfl
          rw [e0] at A1 HN
          clear e0 hb0
          have hq2 : decide ((q : Int) < (len' : Int)) = false := dF (by omega)
          have hq3 : decide (q < len') = false := dF (by omega)
          generalize s64 (os.getD q 0) 0 cy = s at *
          generalize c64 (os.getD q 0) 0 cy = cz at *
          generalize os.getD q 0 = x at *
          go_wp2
          go_roundw
          case rel => exact ⟨q + 1, _, os.set q s, by omega, rfl, by go_num, hid ⟨HN.out.1, HN.out.2.1, by have hb0 := HN.out.2.2; (repeat' (first | (with_reducible assumption) | (with_reducible exact Below.refl _ _) | (with_reducible refine Below.alloc ?_ ?_ _) | (with_reducible refine Below.setCell ?_ ?_ _) | (with_reducible refine Below.drew ?_) | (with_reducible refine below_more ?_ (by with_reducible assumption)) | go_size | omega | (with_reducible refine below_drewN ?_)))⟩⟩
          case measure => simp [intOf]; omega
      · obtain rfl : q = len := by omega
        obtain ⟨hI, hown, hb0⟩ := HI.out
        have hol : os.length = q := hI.2.1.trans H.out.2.2.1
        have hbit := hI.1
        have eV : VL (os ++ [cy]) = m + n := by
          rw [AddI.done (A := wl m) (B := wl n) (by rw [H.out.2.2.1]; exact hI) (by rw [H.out.2.2.1, H.out.2.2.2.1]; omega), VL_wl (by omega), VL_wl (by omega)]
          try omega
        have HV := hid (And.intro eV hol)
        have HO2 := hid (And.intro hown (And.intro hb0 hbit))
        clear eV hol
        have hsz := hb0.size
        clear HO HI hI hown hb0 hbit
        go_wp2_with (at_builtin; (refine wpList_append_u (ws := os) (ms := [cy]) (v := .slice a1 q c1) (src := .slice (some ⟨wr.heap.size, 0, none⟩) 1 1) _ rfl (.tmp 46) (.tmp 48) 73 73 rfl w.heap.size Try.underlying73 Try.underlying73 hi hz0 hz1 hz2 rfl rfl ?own ?src ?small ?base ?_); rotate_right; intro v2 w2 hown hg hat)
        case own => exact HO2.out.1.below ((Below.refl _ _).alloc (Nat.le_refl _) _)
        case src => exact (OwnU.lit wr [cy] (Ws.one ⟨by have := HO2.out.2.2.1; omega, by have := HO2.out.2.2.2; omega⟩) _ rfl (by simp [maxLen])).sl
        case small => have := HV.out.2; simp; omega
        case base => simp; omega
        have hb2 : Below w.heap.size w w2 := ((HO2.out.2.1).alloc hsz _).grown hg (by simp; omega) (fun k e => by
          have := ((HO2.out.1).1.lt k e).1; exact this)
        clear hg hat
        obtain ⟨a2, c2, rfl⟩ := hown.slice
        have hs2 := hown.sl
        have eV := HV.out.1
        have HC := hid (And.intro (SlF.canon (base := w.heap.size) ⟨hs2, hown.fr (by first | exact Nat.le_refl _ | (simp; done) | (simp; omega))⟩) (And.intro hb2 eV))
        clear hown hb2 eV HV HO2
        (repeat' (first | (go_big_may; (first | (go_at_call 65; refine (rtrim_any _ _ _ _ _ hs2).mono ?_; rintro e w' ⟨rfl, rfl⟩))) | go_values | go_skip | go_guarded | go_step | go_upon | (simp only [Int.not_lt, Int.not_le] at *; go_simp) | (go_values <;> (try go_simp)) | (go_ite <;> go_prune <;> (try go_simp)) | (split <;> (first | (rename_i hx; exact (hx _ rfl).elim) | go_prune))))
        go_ret
        obtain ⟨hc, hb2, eV⟩ := HC.out
        refine ⟨.slice a2 (wl (VL (os ++ [cy]))).length c2, rfl, ?_, hb2⟩
        rw [eV] at hc ⊢
        exact hc
def SubI (A B os : List Int) (i : Nat) (c : Int) : Prop := Bit c ∧ os.length = A.length ∧ VL (os.take i) - pw i * c = TV A i - TV B i ∧ ∀ j, i ≤ j → os.getD j 0 = A.getD j 0
theorem SubI.step {A B os : List Int} {i : Nat} {c : Int} (hA : Ws A) (hB : Ws B) (h : SubI A B os i c) (hi : i < A.length) : SubI A B (os.set i (d64 (os.getD i 0) (B.getD i 0) c)) (i + 1) (b64 (os.getD i 0) (B.getD i 0) c) := by
  obtain ⟨h1, h2, h3, h4⟩ := h
  have e := h4 i (Nat.le_refl _)
  refine ⟨b64_bit _ _ _, by rw [List.length_set]; exact h2, ?_, fun j hj => by rw [getD_set_gt os (by omega)]; exact h4 j (by omega)⟩
  rw [take_set_succ os (by omega), VL_snoc, List.length_take, Nat.min_eq_left (by omega), TV_succ, TV_succ, pw_succ]
  have hu : U64 (os.getD i 0) := by rw [e]; exact hA.getD i
  have := sub_round (d64_diff hu (hB.getD i) h1) h3
  rw [e] at this ⊢
  exact this
theorem SubI.done {A B os : List Int} {c : Int} (hw : Ws os) (h : SubI A B os A.length c) (hl : B.length ≤ A.length) (hle : VL B ≤ VL A) : VL os = VL A - VL B := by
  obtain ⟨⟨c0, c1⟩, h2, h3, h4⟩ := h
  rw [TV_all A A.length (Nat.le_refl _), TV_all B A.length hl, List.take_of_length_le (by omega)] at h3
  have h5 := VL_lt hw
  rw [h2] at h5
  rcases (show c = 0 ∨ c = 1 by omega) with rfl | rfl
  · rw [Int.mul_zero] at h3; omega
  · rw [Int.mul_one] at h3; omega
set_option maxHeartbeats 1000000 in
set_option maxRecDepth 100000 in
theorem rsub_any (a a' : Option Addr) (len cap len' cap' : Nat) (m n : Int) (hn : 0 ≤ n) (hle : n ≤ m) (hs : len ≤ 1000) (w : World) (h : SlU w (.slice a len cap) (wl m)) (h' : SlU w (.slice a' len' cap') (wl n)) :
    Calls Try.prog 52 #[.slice a len cap, .slice a' len' cap'] w (MagP w (m - n)) := by
  obtain ⟨i0, hi, hz0, hz1, hz2⟩ := info_u
  obtain ⟨l1, l2, l3⟩ := h.len
  obtain ⟨g1, g2, g3⟩ := h'.len
  have hll : len' ≤ len := by
    have h1 := (wl_len_lt (show 0 ≤ m by omega) len).1 (by omega)
    have h2 := (wl_len_lt hn len).2 (by omega)
    omega
  have H := hid (And.intro h (And.intro h' (And.intro l1 (And.intro g1 (And.intro l2 (And.intro l3 (And.intro g2 g3)))))))
  clear h h' l1 g1 l2 l3 g2 g3
  go_enter Try.func52, Try.ntmps52
  go_wp2_with (at_builtin; (refine wpList_append_u (ws := []) (ms := wl m) (v := .slice (some ⟨w.heap.size, 0, none⟩) 0 0) (src := .slice a len cap) _ rfl (.tmp 9) (.tmp 10) 73 73 rfl w.heap.size Try.underlying73 Try.underlying73 hi hz0 hz1 hz2 rfl rfl ?own ?src ?small ?base ?_); rotate_right; intro v1 w1 hown hg hat)
  case own => exact OwnU.empty w _ rfl rfl (Nat.le_refl _)
  case src => exact H.out.1.alloc _
  case small => have := H.out.2.2.1; simp only [List.length_nil]; omega
  case base => simp
  have hb1 : Below w.heap.size w w1 := ((Below.refl _ w).alloc (Nat.le_refl _) _).grown hg (by simp) (fun k e => by simp [Value.ownBlock] at e; omega)
  clear hg hat
  simp only [List.nil_append] at hown
  obtain ⟨a1, c1, rfl⟩ := hown.slice
  rw [H.out.2.2.1] at hown ⊢
  have HO := hid (And.intro hown hb1)
  clear hown hb1
  have hxl : (0 : Int) ≤ (len : Int) := Int.natCast_nonneg _
  go_loopw [6, 7, 8] (fun c i x wr => ∃ (q : Nat) (cy : Int) (os : List Int), q ≤ len ∧ c = .int .u64 cy ∧ i = .int .i64 q ∧ Hid (SubI (wl m) (wl n) os q cy ∧ OwnU wr w.heap.size (.slice a1 len c1) os ∧ Below w.heap.size w wr)) (fun _ i _ _ => len - (intOf i).toNat)
  case atStart => exact ⟨0, 0, wl m, Nat.zero_le _, rfl, rfl, hid ⟨⟨Bit.zero, rfl, by simp [TV_zero, pw, VL], fun j _ => rfl⟩, HO.out.1, HO.out.2⟩⟩
  case round =>
    obtain ⟨q, cy, os, hq, rfl, rfl, HI⟩ := hrel
    by_cases hql : q < len
    · obtain ⟨hI, hown, hb0⟩ := HI.out
      have hol : os.length = len := hI.2.1.trans H.out.2.2.1
      obtain ⟨g, rfl, -, e3, e4, e5, e6, e7, e8⟩ := hown.at_ (by omega)
      have hc := e7 q (by omega)
      have hf := e8 q
      clear e7 e8
      have hq0 : (0 : Int) ≤ (q : Int) := Int.natCast_nonneg _
      have hq1 : (q : Int) < (len : Int) := by omega
      have hST := hI.step (wl_words _) (wl_words _) (by rw [H.out.2.2.1]; exact hql)
      have A1 := fun W => sub64 (x := os.getD q 0) (y := (wl n).getD q 0) (b := cy) (hown.2.getD q) ((wl_words _).getD q) hI.1 W
      have hOS := hown.stored (x := d64 (os.getD q 0) ((wl n).getD q 0) cy) (by omega) q (by omega) (d64_in _ _ _)
      have HN := hid (And.intro hST (And.intro hOS hb0))
      clear hST hOS hI hown hol
      by_cases hqy : q < len'
      · obtain ⟨b, off, rfl, f1, f2, f3, f4⟩ := (H.out.2.1).at_ hqy
        have hcy := (hb0.cell (p := ⟨b, off + q, none⟩) f1).trans f4
        have hq2 : (q : Int) < (len' : Int) := by omega
        clear f4
        generalize d64 (os.getD q 0) ((wl n).getD q 0) cy = s at *
        generalize b64 (os.getD q 0) ((wl n).getD q 0) cy = cz at *
        generalize os.getD q 0 = x at *
        generalize (wl n).getD q 0 = y at *
        clear hb0
        go_wp2
        go_roundw
        case rel => exact ⟨q + 1, _, os.set q s, by omega, rfl, by go_num, hid ⟨HN.out.1, HN.out.2.1, by have hb0 := HN.out.2.2; (repeat' (first | (with_reducible assumption) | (with_reducible exact Below.refl _ _) | (with_reducible refine Below.alloc ?_ ?_ _) | (with_reducible refine Below.setCell ?_ ?_ _) | (with_reducible refine Below.drew ?_) | (with_reducible refine below_more ?_ (by with_reducible assumption)) | go_size | omega | (with_reducible refine below_drewN ?_)))⟩⟩
        case measure => simp [intOf]; omega
      · have e0 : (wl n).getD q 0 = 0 := by
          rw [List.getD_eq_getElem?_getD, List.getElem?_eq_none (by rw [H.out.2.2.2.1]; omega)]; rfl
        rw [e0] at A1 HN
        clear e0 hb0
        have hq2 : decide ((q : Int) < (len' : Int)) = false := dF (by omega)
        have hq3 : decide (q < len') = false := dF (by omega)
        generalize d64 (os.getD q 0) 0 cy = s at *
        generalize b64 (os.getD q 0) 0 cy = cz at *
        generalize os.getD q 0 = x at *
        go_wp2
        go_roundw
        case rel => exact ⟨q + 1, _, os.set q s, by omega, rfl, by go_num, hid ⟨HN.out.1, HN.out.2.1, by have hb0 := HN.out.2.2; (repeat' (first | (with_reducible assumption) | (with_reducible exact Below.refl _ _) | (with_reducible refine Below.alloc ?_ ?_ _) | (with_reducible refine Below.setCell ?_ ?_ _) | (with_reducible refine Below.drew ?_) | (with_reducible refine below_more ?_ (by with_reducible assumption)) | go_size | omega | (with_reducible refine below_drewN ?_)))⟩⟩
        case measure => simp [intOf]; omega
    · obtain rfl : q = len := by omega
      obtain ⟨hI, hown, hb0⟩ := HI.out
      have eV : VL os = m - n := by
        rw [SubI.done (A := wl m) (B := wl n) hown.2 (by rw [H.out.2.2.1]; exact hI) (by rw [H.out.2.2.1, H.out.2.2.2.1]; omega) (by rw [VL_wl hn, VL_wl (show 0 ≤ m by omega)]; exact hle), VL_wl (show 0 ≤ m by omega), VL_wl hn]
      have hs2 := hown.sl
      have HC := hid (And.intro (SlF.canon (base := w.heap.size) ⟨hs2, hown.fr (by first | exact Nat.le_refl _ | (simp; done) | (simp; omega))⟩) (And.intro hb0 eV))
      clear HO HI hI hown hb0 eV
      (repeat' (first | (go_big_may; (first | (go_at_call 65; refine (rtrim_any _ _ _ _ _ hs2).mono ?_; rintro e w' ⟨rfl, rfl⟩))) | go_values | go_skip | go_guarded | go_step | go_upon | (simp only [Int.not_lt, Int.not_le] at *; go_simp) | (go_values <;> (try go_simp)) | (go_ite <;> go_prune <;> (try go_simp)) | (split <;> (first | (rename_i hx; exact (hx _ rfl).elim) | go_prune))))
      go_ret
      obtain ⟨hc, hb2, eV⟩ := HC.out
      refine ⟨.slice a1 (wl (VL os)).length c1, rfl, ?_, hb2⟩
      rw [eV] at hc ⊢
      exact hc
theorem quiet_l {P : Program} {f : FuncId} {args : Array Value} {w : World} {n : Nat} {v : Value} (h : Calls P f args (w.drewN n) fun e w' => e = .returned v ∧ w.drewN n = w') : Calls P f args (w.drewN n) fun e w' => e = .returned v ∧ ∃ m, w' = w.drewN m :=
  h.mono fun _ _ ⟨he, hm⟩ => ⟨he, n, hm.symm⟩
theorem OwnU.zeros {w : World} {base n : Nat} {v : Value} (h : w.ownsRow base 24 1 v n (madeCells (Value.int .u64 0).cells (n * 1)).toList) : OwnU w base v (List.replicate n 0) := by
  have e : (madeCells (Value.int .u64 0).cells (n * 1)).toList = uw (List.replicate n 0) := by
    rw [show (Value.int .u64 0).cells = #[Value.int .u64 0] from rfl, toList_madeCells_one, Nat.mul_one]
    simp [uw]
  rw [e] at h
  exact ⟨by rw [List.length_replicate]; exact h, Ws.zeros n⟩
theorem rstep {x y acc cy : Int} (hx : U64 x) (hy : U64 y) (ha : U64 acc) (hc : U64 cy) : ∃ r0 c0 h1 r1 c1 cy' : Int, U64 r1 ∧ U64 cy' ∧ r1 + 18446744073709551616 * cy' = x * y + acc + cy ∧ IntKind.u64.wrap (hi64 x y + c0) = h1 ∧ IntKind.u64.wrap (h1 + c1) = cy' ∧
    (∀ W, (callFunc 67 #[.int .u64 (lo64 x y), .int .u64 acc, .int .u64 0]).run Try.prog W = .ok (.value (.tuple #[.int .u64 r0, .int .u64 c0])) W) ∧
    (∀ W, (callFunc 67 #[.int .u64 r0, .int .u64 cy, .int .u64 0]).run Try.prog W = .ok (.value (.tuple #[.int .u64 r1, .int .u64 c1])) W) := by
  have hl : U64 (lo64 x y) := ⟨by unfold lo64; omega, by unfold lo64; omega⟩
  have A1 := fun W => add64 hl ha Bit.zero W
  have e1 : s64 (lo64 x y) acc 0 = s64 acc (lo64 x y) 0 := by unfold s64; rw [Int.add_comm (lo64 x y) acc]
  have e2 : c64 (lo64 x y) acc 0 = c64 acc (lo64 x y) 0 := by unfold c64; rw [Int.add_comm (lo64 x y) acc]
  rw [e1, e2] at A1
  obtain ⟨r0, c0, h1, r1, c1, cy', m1, m2, m3, m4, m5, m6, m7⟩ := mstep hx hy ha hc
  have A2 := fun W => add64 ha hl Bit.zero W
  have k : r0 = s64 acc (lo64 x y) 0 ∧ c0 = c64 acc (lo64 x y) 0 := by
    have := (m6 default).symm.trans (A2 default)
    simp at this
    exact this
  obtain ⟨rfl, rfl⟩ := k
  exact ⟨_, _, h1, r1, c1, cy', m1, m2, m3, m4, m5, A1, m7⟩
/-- After i rows of the product; after k words of row i. -/
def MulO (A B os : List Int) (i : Nat) : Prop := os.length = A.length + B.length + 1 ∧ VL os = TV A i * VL B ∧ ∀ j, i + B.length ≤ j → os.getD j 0 = 0
def MulK (A B os : List Int) (i k : Nat) (c : Int) : Prop := U64 c ∧ os.length = A.length + B.length + 1 ∧ VL os + pw (i + k) * c = TV A i * VL B + pw i * A.getD i 0 * TV B k ∧ ∀ j, i + B.length ≤ j → os.getD j 0 = 0
theorem MulK.start {A B os : List Int} {i : Nat} (h : MulO A B os i) : MulK A B os i 0 0 :=
  ⟨U64.zero, h.1, by rw [TV_zero, Int.mul_zero, Int.mul_zero, h.2.1], h.2.2⟩
theorem MulK.step {A B os : List Int} {i k : Nat} {c r c' : Int} (h : MulK A B os i k c) (hk : k < B.length) (hi : i < A.length) (hc : U64 c') (e : r + 18446744073709551616 * c' = A.getD i 0 * B.getD k 0 + os.getD (i + k) 0 + c) : MulK A B (os.set (i + k) r) i (k + 1) c' := by
  obtain ⟨h1, h2, h3, h4⟩ := h
  refine ⟨hc, by rw [List.length_set]; exact h2, ?_, fun j hj => by rw [getD_set_gt os (by omega)]; exact h4 j hj⟩
  rw [VL_set os (i + k) (by omega), TV_succ, show i + (k + 1) = (i + k) + 1 by omega, pw_succ, Int.mul_add, ← Int.add_assoc, ← h3]
  generalize os.getD (i + k) 0 = o at *
  generalize A.getD i 0 = x at *
  generalize B.getD k 0 = y at *
  have e3 : pw i * x * (pw k * y) = pw (i + k) * (x * y) := by rw [pw_add]; simp only [Int.mul_assoc]; rw [Int.mul_left_comm x (pw k) y]
  rw [e3]
  generalize pw (i + k) = p
  have e4 : p * (r - o) + 18446744073709551616 * p * c' = p * (r + 18446744073709551616 * c' - o) := by
    rw [Int.mul_sub, Int.mul_sub, Int.mul_add, Int.mul_comm 18446744073709551616 p, Int.mul_assoc]; omega
  rw [e] at e4
  have e5 : p * (x * y + o + c - o) = p * (x * y) + p * c := by rw [← Int.mul_add]; congr 1; omega
  omega
theorem MulK.done {A B os : List Int} {i : Nat} {c : Int} (h : MulK A B os i B.length c) (hi : i < A.length) : MulO A B (os.set (i + B.length) c) (i + 1) := by
  obtain ⟨h1, h2, h3, h4⟩ := h
  refine ⟨by rw [List.length_set]; exact h2, ?_, fun j hj => by rw [getD_set_gt os (by omega)]; exact h4 j (by omega)⟩
  rw [VL_set os _ (by omega), h4 _ (Nat.le_refl _), Int.sub_zero, h3, TV_all B B.length (Nat.le_refl _), TV_succ, Int.add_mul]
theorem MulO.start (A B : List Int) : MulO A B (List.replicate (A.length + B.length + 1) 0) 0 :=
  ⟨by simp, by rw [VL_zeros, TV_zero, Int.zero_mul], fun j hj => by
    rw [List.getD_eq_getElem?_getD]
    rcases Nat.lt_or_ge j (A.length + B.length + 1) with h | h
    · rw [List.getElem?_replicate, if_pos h]; rfl
    · rw [List.getElem?_eq_none (by simpa using h)]; rfl⟩
set_option maxHeartbeats 1000000 in
set_option maxRecDepth 100000 in
theorem rmul_any (a a' : Option Addr) (len cap len' cap' : Nat) (m n : Int) (hm : 0 ≤ m) (hn : 0 ≤ n) (hs : len ≤ 1000) (hs' : len' ≤ 1000) (w : World) (h : SlU w (.slice a len cap) (wl m)) (h' : SlU w (.slice a' len' cap') (wl n)) :
    Calls Try.prog 48 #[.slice a len cap, .slice a' len' cap'] w (MagP w (m * n)) := by
  obtain ⟨i0, hi, hz0, hz1, hz2⟩ := info_u
  obtain ⟨l1, l2, l3⟩ := h.len
  obtain ⟨g1, g2, g3⟩ := h'.len
  obtain ⟨w1, hmk, hown, hg1⟩ := run_make_full (P := Try.prog) w w.heap.size 73 24 i0 (.int .u64 0) 1 Try.underlying73 hi hz0 hz1 .i64 .i64 (len + len' + 1) (by rw [hz2]; omega) (by unfold maxLen; omega) (Nat.le_refl _)
  have hcast : ((len + len' + 1 : Nat) : Int) = (len : Int) + (len' : Int) + 1 := by omega
  rw [hcast] at hmk
  have H := hid (And.intro h (And.intro h' (And.intro l1 (And.intro g1 (And.intro l2 (And.intro l3 (And.intro g2 g3)))))))
  have HO := hid (And.intro (OwnU.zeros hown) (below_gt hg1))
  clear h h' l1 g1 l2 l3 g2 g3 hown hg1 hcast
  go_enter Try.func48, Try.ntmps48
  go_wp2_with fail
  clear hmk
  go_loopw [6, 7, 8, 9, 10, 11] (fun i c k h l cc wr => ∃ (q : Nat) (os : List Int), q ≤ len ∧ i = .int .i64 q ∧ Hid (MulO (wl m) (wl n) os q ∧ OwnU wr w.heap.size (.slice (some ⟨w.heap.size, 0, none⟩) (len + len' + 1) (len + len' + 1)) os ∧ Below w.heap.size w wr)) (fun i _ _ _ _ _ _ => len - (intOf i).toNat)
  case atStart => exact ⟨0, _, Nat.zero_le _, rfl, hid ⟨by have := MulO.start (wl m) (wl n); rw [H.out.2.2.1, H.out.2.2.2.1] at this; exact this, HO.out.1, HO.out.2⟩⟩
  case round =>
    obtain ⟨q, os, hq, rfl, HI⟩ := hrel
    have hq0 : (0 : Int) ≤ (q : Int) := Int.natCast_nonneg _
    by_cases hql : q < len
    · have hq1 : (q : Int) < (len : Int) := by omega
      go_wp2
      obtain ⟨wo, rfl⟩ : ∃ wo : World, wo = wr := ⟨_, rfl⟩
      go_loopw [7, 8, 9, 10, 11] (fun c k h l cc wr => ∃ (p : Nat) (cy : Int) (os : List Int), p ≤ len' ∧ k = .int .i64 p ∧ c = .int .u64 cy ∧ Hid (MulK (wl m) (wl n) os q p cy ∧ OwnU wr w.heap.size (.slice (some ⟨w.heap.size, 0, none⟩) (len + len' + 1) (len + len' + 1)) os ∧ Below w.heap.size w wr)) (fun _ k _ _ _ _ => len' - (intOf k).toNat)
      case atStart => exact ⟨0, 0, os, Nat.zero_le _, rfl, rfl, hid ⟨MulK.start HI.out.1, HI.out.2.1, HI.out.2.2⟩⟩
      case round =>
        obtain ⟨p, cy, os, hp, rfl, rfl, HK⟩ := hrel
        have hp0 : (0 : Int) ≤ (p : Int) := Int.natCast_nonneg _
        obtain ⟨hK, hown, hb0⟩ := HK.out
        have hol : os.length = len + len' + 1 := by rw [hK.2.1, H.out.2.2.1, H.out.2.2.2.1]
        obtain ⟨g, e0, -, e3, e4, e5, e6, e7, e8⟩ := hown.at_ (by omega)
        obtain rfl : w.heap.size = g := by simpa using e0
        clear e0
        by_cases hpl : p < len'
        · have hp1 : (p : Int) < (len' : Int) := by omega
          have ho := e7 (q + p) (by omega)
          have hf := e8 (q + p)
          clear e7 e8
          obtain ⟨b, off, rfl, f1, f2, f3, f4⟩ := (H.out.1).at_ hql
          obtain ⟨b', off', rfl, k1, k2, k3, k4⟩ := (H.out.2.1).at_ hpl
          have hcx := (hb0.cell (p := ⟨b, off + q, none⟩) f1).trans f4
          have hcy := (hb0.cell (p := ⟨b', off' + p, none⟩) k1).trans k4
          clear f4 k4
          obtain ⟨r0, c0, h1, r1, c1, cy', m1, m2, m3, m4, m5, m6, m7⟩ := rstep ((wl_words m).getD q) ((wl_words n).getD p) (hown.2.getD (q + p)) hK.1
          have hux := (wl_words m).getD q
          have huy := (wl_words n).getD p
          have hN := hK.step (r := r1) (by rw [H.out.2.2.2.1]; exact hpl) (by rw [H.out.2.2.1]; exact hql) m2 m3
          have hOS := hown.stored (x := r1) (by omega) (q + p) (by omega) m1
          have HN := hid (And.intro hN (And.intro hOS (And.intro hb0 (And.intro hux huy))))
          clear hN hOS hK hown hol m1 m2 m3 hux huy
          generalize (wl m).getD q 0 = x at *
          generalize (wl n).getD p 0 = y at *
          generalize os.getD (q + p) 0 = acc at *
          have i1 : (0 : Int) ≤ (q : Int) + (p : Int) := by omega
          have i2 : (q : Int) + (p : Int) < (len : Int) + (len' : Int) + 1 := by omega
          have i3 : ((q : Int) + (p : Int)).toNat = q + p := by omega
          have i4 : (q : Int) + (p : Int) ≤ 9223372036854775807 := by omega
          clear hb0
          go_wp2
          go_quiet ((go_at_call 66; exact quiet_l (wmul64_any x y HN.out.2.2.2.1 HN.out.2.2.2.2 _)))
          go_wp2
          go_roundw
          case rel => exact ⟨p + 1, _, os.set (q + p) r1, by omega, by go_num, rfl, hid ⟨HN.out.1, HN.out.2.1, by have hb0 := HN.out.2.2.1; (repeat' (first | (with_reducible assumption) | (with_reducible exact Below.refl _ _) | (with_reducible refine Below.alloc ?_ ?_ _) | (with_reducible refine Below.setCell ?_ ?_ _) | (with_reducible refine Below.drew ?_) | (with_reducible refine below_more ?_ (by with_reducible assumption)) | go_size | omega | (with_reducible refine below_drewN ?_)))⟩⟩
          case measure => simp [intOf]; omega
        · obtain rfl : p = len' := by omega
          have ho := e7 (q + p) (by omega)
          have hf := e8 (q + p)
          clear e7 e8
          have hN := MulK.done (A := wl m) (B := wl n) (os := os) (i := q) (c := cy) (by rw [H.out.2.2.2.1]; exact hK) (by rw [H.out.2.2.1]; exact hql)
          rw [H.out.2.2.2.1] at hN
          have hOS := hown.stored (x := cy) (by omega) (q + p) (by omega) hK.1
          have HN := hid (And.intro hN (And.intro hOS hb0))
          clear hN hOS hK hown hol hb0
          generalize os.getD (q + p) 0 = acc at *
          have i1 : (0 : Int) ≤ (q : Int) + (p : Int) := by omega
          have i2 : (q : Int) + (p : Int) < (len : Int) + (p : Int) + 1 := by omega
          have i3 : ((q : Int) + (p : Int)).toNat = q + p := by omega
          have i4 : (q : Int) + (p : Int) ≤ 9223372036854775807 := by omega
          go_wp2
          go_roundw
          case rel => exact ⟨q + 1, os.set (q + p) cy, by omega, by go_num, hid ⟨HN.out.1, HN.out.2.1, by have hb0 := HN.out.2.2; (repeat' (first | (with_reducible assumption) | (with_reducible exact Below.refl _ _) | (with_reducible refine Below.alloc ?_ ?_ _) | (with_reducible refine Below.setCell ?_ ?_ _) | (with_reducible refine Below.drew ?_) | (with_reducible refine below_more ?_ (by with_reducible assumption)) | go_size | omega | (with_reducible refine below_drewN ?_)))⟩⟩
          case measure => simp [intOf]; omega
    · obtain rfl : q = len := by omega
      obtain ⟨hO, hown, hb0⟩ := HI.out
      have eV : VL os = m * n := by
        rw [hO.2.1, ← H.out.2.2.1, TV_all _ _ (Nat.le_refl _), VL_wl hm, VL_wl hn]
      have hol : os.length = q + len' + 1 := by rw [hO.1, H.out.2.2.1, H.out.2.2.2.1]
      have hs2 : SlU wr (.slice (some ⟨w.heap.size, 0, none⟩) (q + len' + 1) (q + len' + 1)) os := hown.sl
      have HC := hid (And.intro (SlF.canon (base := w.heap.size) ⟨hs2, hown.fr (by first | exact Nat.le_refl _ | (simp; done) | (simp; omega))⟩) (And.intro hb0 eV))
      clear HI hO hown hb0 eV hol
      (repeat' (first | (go_big_may; (first | (go_at_call 65; refine (rtrim_any _ _ _ _ _ hs2).mono ?_; rintro e w' ⟨rfl, rfl⟩))) | go_values | go_skip | go_guarded | go_step | go_upon | (simp only [Int.not_lt, Int.not_le] at *; go_simp) | (go_values <;> (try go_simp)) | (go_ite <;> go_prune <;> (try go_simp)) | (split <;> (first | (rename_i hx; exact (hx _ rfl).elim) | go_prune))))
      go_ret
      obtain ⟨hc, hb2, eV⟩ := HC.out
      refine ⟨.slice (some ⟨w.heap.size, 0, none⟩) (wl (VL os)).length (q + len' + 1), rfl, ?_, hb2⟩
      rw [eV] at hc ⊢
      exact hc
end Go.Proofs.Ythcboomdkpiflaa
