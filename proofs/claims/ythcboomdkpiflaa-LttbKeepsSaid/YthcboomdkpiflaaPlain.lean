/- Plain facts on 64-bit numbers: ranges, the middle of two numbers, distances. No program in sight. -/
import Derived.WalkKit
import Derived.Laws.BitsAllLaws
import Derived.OpenShut
import Derived.ProofKit
namespace Go.Proofs.Ythcboomdkpiflaa
open Go.RowKit
set_option linter.unusedVariables false
set_option linter.unusedSimpArgs false

theorem hid {p : Prop} (h : p) : Hid p := h

def I64 (x : Int) : Prop := -9223372036854775808 ≤ x ∧ x ≤ 9223372036854775807
def U64 (x : Int) : Prop := 0 ≤ x ∧ x ≤ 18446744073709551615

theorem I64.of_wf {x : Int} (h : (Lit.int .i64 x).wf = true) : I64 x := bounds_i64 h
theorem U64.of_wf {x : Int} (h : (Lit.int .u64 x).wf = true) : U64 x := bounds_u64 h

theorem nat_add_and_xor (a b : Nat) : a + b = 2 * (a &&& b) + (a ^^^ b) := by
  induction a using Nat.strongRecOn generalizing b with
  | ind a ih =>
    by_cases ha : a = 0
    · subst ha; simp
    · have h := ih (a / 2) (by omega) (b / 2)
      have e1 : (a &&& b) / 2 = a / 2 &&& b / 2 := Nat.and_div_two
      have e2 : (a ^^^ b) / 2 = a / 2 ^^^ b / 2 := Nat.xor_div_two
      have e3 := Nat.and_mod_two_pow (a := a) (b := b) (n := 1)
      have e4 := Nat.xor_mod_two_pow (a := a) (b := b) (n := 1)
      simp only [Nat.pow_one] at e3 e4
      rw [← e1, ← e2] at h
      rcases Nat.mod_two_eq_zero_or_one a with h1 | h1 <;> rcases Nat.mod_two_eq_zero_or_one b with h2 | h2 <;> rw [h1, h2] at e3 e4 <;> simp only [Nat.reduceAnd, Nat.reduceXor] at e3 e4 <;> omega

theorem ofInt_toNat (x : Int) : ((BitVec.ofInt 64 x).toNat : Int) = x % 18446744073709551616 := by
  rw [BitVec.toNat_ofInt]; omega

theorem bits_and_i64 (a b : Int) : bits .and .i64 a b = IntKind.i64.wrap (((a % 18446744073709551616).toNat &&& (b % 18446744073709551616).toNat : Nat) : Int) := by
  show IntKind.i64.wrap ((BitVec.ofInt 64 a &&& BitVec.ofInt 64 b).toNat : Int) = _
  rw [BitVec.toNat_and, BitVec.toNat_ofInt, BitVec.toNat_ofInt]; rfl
theorem bits_xor_i64 (a b : Int) : bits .xor .i64 a b = IntKind.i64.wrap (((a % 18446744073709551616).toNat ^^^ (b % 18446744073709551616).toNat : Nat) : Int) := by
  show IntKind.i64.wrap ((BitVec.ofInt 64 a ^^^ BitVec.ofInt 64 b).toNat : Int) = _
  rw [BitVec.toNat_xor, BitVec.toNat_ofInt, BitVec.toNat_ofInt]; rfl

/-- The sign of a conjunction, an exclusive or: the top bits of two words. -/
theorem and_top (x y : Nat) : (x &&& y) / 9223372036854775808 = x / 9223372036854775808 &&& y / 9223372036854775808 := by
  have h := Nat.shiftRight_and_distrib (a := x) (b := y) (i := 63)
  simp only [Nat.shiftRight_eq_div_pow] at h; exact h
theorem xor_top (x y : Nat) : (x ^^^ y) / 9223372036854775808 = x / 9223372036854775808 ^^^ y / 9223372036854775808 := by
  have h := Nat.shiftRight_xor_distrib (a := x) (b := y) (i := 63)
  simp only [Nat.shiftRight_eq_div_pow] at h; exact h
theorem and_lt64 (x y : Nat) (h : y < 18446744073709551616) : (x &&& y) < 18446744073709551616 := Nat.and_lt_two_pow (n := 64) x h
theorem xor_lt64 (x y : Nat) (h : x < 18446744073709551616) (h' : y < 18446744073709551616) : (x ^^^ y) < 18446744073709551616 := Nat.xor_lt_two_pow (n := 64) h h'

theorem wrap_i64_lo (n : Int) (h0 : 0 ≤ n) (h : n < 9223372036854775808) : IntKind.i64.wrap n = n := by
  rw [IntKind.wrap_i64]; omega
theorem wrap_i64_hi (n : Int) (h0 : 9223372036854775808 ≤ n) (h : n < 18446744073709551616) : IntKind.i64.wrap n = n - 18446744073709551616 := by
  rw [IntKind.wrap_i64]; omega
theorem wrap64_id (n : Int) (h : I64 n) : wrap64 n = n := IntWalk.wrap64_in n h
theorem top_hi (x : Nat) (h : x / 9223372036854775808 = 1) : (9223372036854775808 : Int) ≤ (x : Int) := by omega
theorem top_lo (x : Nat) (h : x / 9223372036854775808 = 0) : (x : Int) < 9223372036854775808 := by omega
theorem hi_top (x : Nat) (a : Int) (h : (x : Int) = a % 18446744073709551616) (h1 : -9223372036854775808 ≤ a) (h2 : a < 0) : x / 9223372036854775808 = 1 := by omega
theorem lo_top (x : Nat) (a : Int) (h : (x : Int) = a % 18446744073709551616) (h1 : a ≤ 9223372036854775807) (h2 : 0 ≤ a) : x / 9223372036854775808 = 0 := by omega
theorem mid1 (a b : Int) (x y u v : Int) (hx : x = a) (hy : y = b) (s : x + y = 2 * u + v) : u + v / 2 = (a + b) / 2 := by omega
theorem emod_lo (a : Int) (h : a ≤ 9223372036854775807) (h0 : 0 ≤ a) : a % 18446744073709551616 = a := by omega
theorem emod_hi (a : Int) (h : -9223372036854775808 ≤ a) (h0 : a < 0) : a % 18446744073709551616 = a + 18446744073709551616 := by omega
theorem mid_in (a b : Int) (ha : I64 a) (hb : I64 b) : I64 ((a + b) / 2) := by
  obtain ⟨a1, a2⟩ := ha; obtain ⟨b1, b2⟩ := hb
  exact ⟨by omega, by omega⟩

theorem mid_core (a b : Int) (x y u v : Nat) (ha : I64 a) (hb : I64 b)
    (hx : (x : Int) = a % 18446744073709551616) (hy : (y : Int) = b % 18446744073709551616) (s : (x : Int) + y = 2 * u + v) (l1 : (u : Int) < 18446744073709551616) (l2 : (v : Int) < 18446744073709551616)
    (t1 : u / 9223372036854775808 = x / 9223372036854775808 &&& y / 9223372036854775808) (t2 : v / 9223372036854775808 = x / 9223372036854775808 ^^^ y / 9223372036854775808) :
    wrap64 (IntKind.i64.wrap (u : Int) + IntKind.i64.wrap (v : Int) / 2) = (a + b) / 2 := by
  have hm := mid_in a b ha hb
  have pu : (0 : Int) ≤ (u : Int) := Int.natCast_nonneg _
  have pv : (0 : Int) ≤ (v : Int) := Int.natCast_nonneg _
  suffices h : IntKind.i64.wrap (u : Int) + IntKind.i64.wrap (v : Int) / 2 = (a + b) / 2 by rw [h]; exact wrap64_id _ hm
  by_cases c1 : a < 0 <;> by_cases c2 : b < 0
  · rw [hi_top x a hx ha.1 c1, hi_top y b hy hb.1 c2] at t1 t2
    simp only [Nat.reduceAnd, Nat.reduceXor] at t1 t2
    rw [wrap_i64_hi _ (top_hi u t1) l1, wrap_i64_lo _ pv (top_lo v t2)]
    rw [hx, hy, emod_hi a ha.1 c1, emod_hi b hb.1 c2] at s
    clear t1 t2 hx hy l1 l2; omega
  · rw [hi_top x a hx ha.1 c1, lo_top y b hy hb.2 (by omega)] at t1 t2
    simp only [Nat.reduceAnd, Nat.reduceXor] at t1 t2
    rw [wrap_i64_lo _ pu (top_lo u t1), wrap_i64_hi _ (top_hi v t2) l2]
    rw [hx, hy, emod_hi a ha.1 c1, emod_lo b hb.2 (by omega)] at s
    clear t1 t2 hx hy l1 l2; omega
  · rw [lo_top x a hx ha.2 (by omega), hi_top y b hy hb.1 c2] at t1 t2
    simp only [Nat.reduceAnd, Nat.reduceXor] at t1 t2
    rw [wrap_i64_lo _ pu (top_lo u t1), wrap_i64_hi _ (top_hi v t2) l2]
    rw [hx, hy, emod_lo a ha.2 (by omega), emod_hi b hb.1 c2] at s
    clear t1 t2 hx hy l1 l2; omega
  · rw [lo_top x a hx ha.2 (by omega), lo_top y b hy hb.2 (by omega)] at t1 t2
    simp only [Nat.reduceAnd, Nat.reduceXor] at t1 t2
    rw [wrap_i64_lo _ pu (top_lo u t1), wrap_i64_lo _ pv (top_lo v t2)]
    rw [hx, hy, emod_lo a ha.2 (by omega), emod_lo b hb.2 (by omega)] at s
    clear t1 t2 hx hy l1 l2; omega

theorem mid_bits (a b : Int) (ha : I64 a) (hb : I64 b) : wrap64 (bits .and .i64 a b + bits .xor .i64 a b / 2) = (a + b) / 2 := by
  rw [bits_and_i64, bits_xor_i64]
  have lx : (a % 18446744073709551616).toNat < 18446744073709551616 := by omega
  have ly : (b % 18446744073709551616).toNat < 18446744073709551616 := by omega
  have s := nat_add_and_xor (a % 18446744073709551616).toNat (b % 18446744073709551616).toNat
  exact mid_core a b _ _ _ _ ha hb (by omega) (by omega) (by omega) (Int.ofNat_lt.2 (and_lt64 _ _ ly)) (Int.ofNat_lt.2 (xor_lt64 _ _ lx ly)) (and_top _ _) (xor_top _ _)

/-! ### Results that may not exist: a number in range, or 0 and false -/
def rng (x : Int) : Bool := decide (-9223372036854775808 ≤ x) && decide (x ≤ 9223372036854775807)
def orZ (p : Bool) (x : Int) : Int := if p then x else 0
def dst (a b : Int) : Int := if a < b then b - a else a - b
theorem rng_iff (x : Int) : rng x = true ↔ I64 x := by simp [rng, I64]
theorem rng_yes {x : Int} (h : I64 x) : rng x = true := (rng_iff x).2 h
theorem rng_no {x : Int} (h : ¬ I64 x) : rng x = false := by
  cases e : rng x
  · rfl
  · exact absurd ((rng_iff x).1 e) h
theorem orZ_true (x : Int) : orZ true x = x := rfl
theorem orZ_false (x : Int) : orZ false x = 0 := rfl
theorem i64_zero : I64 0 := ⟨by decide, by decide⟩
theorem orZ_in (x : Int) : I64 (orZ (rng x) x) := by
  cases e : rng x
  · exact i64_zero
  · exact (rng_iff x).1 e
theorem orZ_in' (p : Bool) (x : Int) (h : I64 x) : I64 (orZ p x) := by
  cases p
  · exact i64_zero
  · exact h
theorem yes_ib {x s : Int} {p : Bool} (hx : x = s) (hp : p = true) (h : I64 s) : Ending.returned (.tuple #[.int .i64 x, .bool p]) = .returned (.tuple #[.int .i64 (orZ (rng s) s), .bool (rng s)]) := by
  rw [rng_yes h, hx, hp]; rfl
theorem no_ib {x s : Int} {p : Bool} (hx : x = 0) (hp : p = false) (h : ¬ I64 s) : Ending.returned (.tuple #[.int .i64 x, .bool p]) = .returned (.tuple #[.int .i64 (orZ (rng s) s), .bool (rng s)]) := by
  rw [rng_no h, hx, hp]; rfl
theorem ret_i {k : IntKind} {a b : Int} (h : a = b) : Ending.returned (.int k a) = .returned (.int k b) := by rw [h]
theorem ret_b {a b : Bool} (h : a = b) : Ending.returned (.bool a) = .returned (.bool b) := by rw [h]
theorem ret_ib {k : IntKind} {a b : Int} {p q : Bool} (h : a = b) (h' : p = q) : Ending.returned (.tuple #[.int k a, .bool p]) = .returned (.tuple #[.int k b, .bool q]) := by rw [h, h']
theorem wrap64_pos_over (s : Int) (h : 9223372036854775807 < s) (h' : s ≤ 18446744073709551615) : wrap64 s < 0 := by
  simp only [wrap64]; omega
theorem wrap64_neg_over (s : Int) (h : s < -9223372036854775808) (h' : -18446744073709551616 ≤ s) : 0 ≤ wrap64 s := by
  simp only [wrap64]; omega
theorem u64_wrap_id (x : Int) (h : U64 x) : IntKind.u64.wrap x = x := by
  obtain ⟨h1, h2⟩ := h
  rw [IntKind.wrap_u64]; omega
theorem dst_in (a b : Int) (ha : I64 a) (hb : I64 b) : U64 (dst a b) := by
  obtain ⟨a1, a2⟩ := ha; obtain ⟨b1, b2⟩ := hb
  unfold dst; split <;> exact ⟨by omega, by omega⟩
theorem dst_wrap1 (a b : Int) (ha : I64 a) (hb : I64 b) (h : b ≤ a) : IntKind.u64.wrap (IntKind.u64.wrap a - IntKind.u64.wrap b) = dst a b := by
  obtain ⟨a1, a2⟩ := ha; obtain ⟨b1, b2⟩ := hb
  have : dst a b = a - b := by unfold dst; rw [if_neg (by omega)]
  rw [this, IntKind.wrap_u64, IntKind.wrap_u64, IntKind.wrap_u64, ← Int.sub_emod]; omega
theorem dst_wrap2 (a b : Int) (ha : I64 a) (hb : I64 b) (h : a ≤ b) : IntKind.u64.wrap (IntKind.u64.wrap b - IntKind.u64.wrap a) = dst a b := by
  obtain ⟨a1, a2⟩ := ha; obtain ⟨b1, b2⟩ := hb
  have : dst a b = b - a := by unfold dst; split <;> omega
  rw [this, IntKind.wrap_u64, IntKind.wrap_u64, IntKind.wrap_u64, ← Int.sub_emod]; omega
theorem dst_comm (a b : Int) : dst a b = dst b a := by unfold dst; split <;> split <;> omega

theorem dT {p : Prop} [Decidable p] (h : p) : decide p = true := decide_eq_true h
theorem dF {p : Prop} [Decidable p] (h : ¬ p) : decide p = false := decide_eq_false h

/-! ### Quotients -/
def cdv (a b : Int) : Int := -((-a).fdiv b)
def nz (b : Int) : Bool := decide (b ≠ 0)
def dvb (a b : Int) : Bool := decide (b ≠ 0 ∧ ¬ (a = -9223372036854775808 ∧ b = -1))
theorem dvb_no0 {a b : Int} (h : b = 0) : dvb a b = false := dF (fun h' => h'.1 h)
theorem dvb_no1 {a b : Int} (h : a = -9223372036854775808) (h1 : b = -1) : dvb a b = false := dF (fun h' => h'.2 ⟨h, h1⟩)
theorem dvb_yes {a b : Int} (h : b ≠ 0) (h1 : ¬ (a = -9223372036854775808 ∧ b = -1)) : dvb a b = true := dT ⟨h, h1⟩
theorem tdiv_in (a b : Int) (ha : I64 a) (h : dvb a b = true) : I64 (a.tdiv b) := by
  obtain ⟨h0, h1⟩ := of_decide_eq_true h
  obtain ⟨a1, a2⟩ := ha
  have hq := Int.natAbs_tdiv_le_natAbs a b
  by_cases hb : b = -1
  · subst hb
    have e : a.tdiv (-1) = -a := by simp
    rw [e]; exact ⟨by omega, by omega⟩
  by_cases hb1 : b = 1
  · subst hb1
    have e : a.tdiv 1 = a := by simp
    rw [e]; exact ⟨a1, a2⟩
  have hlt : a ≠ 0 → (a.tdiv b).natAbs < a.natAbs := by
    intro ha0
    rw [Int.natAbs_tdiv]
    exact Nat.div_lt_self (by omega) (by omega)
  by_cases ha0 : a = 0
  · subst ha0; simp; exact i64_zero
  · have := hlt ha0
    exact ⟨by omega, by omega⟩
theorem fdiv_same {a b : Int} (hb : b ≠ 0) (h : a.tmod b = 0) : a.tdiv b = a.fdiv b := by
  rw [Int.fdiv_eq_tdiv, if_pos (Int.dvd_iff_tmod_eq_zero.2 h)]; omega
theorem fdiv_eqsign {a b : Int} (hb : b ≠ 0) (hs : decide (a < 0) = decide (b < 0)) : a.tdiv b = a.fdiv b := by
  rw [Int.fdiv_eq_tdiv]
  by_cases h : b ∣ a
  · rw [if_pos h]; omega
  · rw [if_neg h]
    have hs' : a < 0 ↔ b < 0 := decide_eq_decide.1 hs
    by_cases h0 : 0 ≤ a
    · rw [if_pos h0, if_pos (by omega)]; omega
    · rw [if_neg h0, if_neg (by omega), Int.sign_eq_neg_one_of_neg (by omega)]; omega
theorem fdiv_nesign {a b : Int} (hb : b ≠ 0) (h : a.tmod b ≠ 0) (hs : decide (a < 0) ≠ decide (b < 0)) : a.tdiv b - 1 = a.fdiv b := by
  rw [Int.fdiv_eq_tdiv, if_neg (fun hd => h (Int.dvd_iff_tmod_eq_zero.1 hd))]
  have hs' : ¬ (a < 0 ↔ b < 0) := fun e => hs (decide_eq_decide.2 e)
  by_cases h0 : 0 ≤ a
  · rw [if_pos h0, if_neg (by omega)]
  · rw [if_neg h0, if_pos (by omega), Int.sign_eq_one_of_pos (by omega)]
theorem cdv_dvd {a b : Int} (h : a.tmod b = 0) : cdv a b = a.fdiv b := by
  unfold cdv; rw [Int.neg_fdiv, if_pos (Or.inr (Int.dvd_iff_tmod_eq_zero.2 h))]; omega
theorem cdv_ndvd {a b : Int} (hb : b ≠ 0) (h : a.tmod b ≠ 0) : cdv a b = a.fdiv b + 1 := by
  unfold cdv; rw [Int.neg_fdiv, if_neg (fun e => e.elim hb (fun hd => h (Int.dvd_iff_tmod_eq_zero.1 hd)))]; omega
theorem tmod_sign {a b : Int} (h : a.tmod b ≠ 0) : a < 0 ↔ a.tmod b < 0 := by
  constructor
  · intro h0
    have h1 : 0 ≤ (-a).tmod b := Int.tmod_nonneg _ (by omega)
    rw [Int.neg_tmod] at h1; omega
  · intro h0
    by_cases h1 : a < 0
    · exact h1
    · have := Int.tmod_nonneg b (a := a) (by omega); omega
theorem fmod_eqsign {a b : Int} (hb : b ≠ 0) (h : a.tmod b ≠ 0) (hs : decide (a.tmod b < 0) = decide (b < 0)) : a.tmod b = a.fmod b := by
  rw [Int.fmod_eq_tmod, if_neg (fun hd => h (Int.dvd_iff_tmod_eq_zero.1 hd))]
  have hs' : a.tmod b < 0 ↔ b < 0 := decide_eq_decide.1 hs
  have := tmod_sign h
  by_cases h0 : 0 ≤ a
  · rw [if_pos h0, if_pos (by omega)]; omega
  · rw [if_neg h0, if_neg (by omega)]; omega
theorem fmod_nesign {a b : Int} (hb : b ≠ 0) (h : a.tmod b ≠ 0) (hs : decide (a.tmod b < 0) ≠ decide (b < 0)) : a.tmod b + b = a.fmod b := by
  rw [Int.fmod_eq_tmod, if_neg (fun hd => h (Int.dvd_iff_tmod_eq_zero.1 hd))]
  have hs' : ¬ (a.tmod b < 0 ↔ b < 0) := fun e => hs (decide_eq_decide.2 e)
  have := tmod_sign h
  by_cases h0 : 0 ≤ a
  · rw [if_pos h0, if_neg (by omega)]
  · rw [if_neg h0, if_pos (by omega)]; omega
theorem fmod_same {a b : Int} (h : a.tmod b = 0) : a.tmod b = a.fmod b := by
  rw [Int.fmod_eq_tmod, if_pos (Int.dvd_iff_tmod_eq_zero.2 h)]; omega
theorem fmod_in (a b : Int) (hb : I64 b) (h : b ≠ 0) : I64 (a.fmod b) := by
  obtain ⟨b1, b2⟩ := hb
  by_cases hp : 0 < b
  · have h1 := Int.fmod_nonneg_of_pos a hp
    have h2 := Int.fmod_lt_of_pos a hp
    exact ⟨by omega, by omega⟩
  · have h1 := Int.fmod_nonneg_of_pos (-a) (b := -b) (by omega)
    have h2 := Int.fmod_lt_of_pos (-a) (b := -b) (by omega)
    have e : (-a).fmod (-b) = -(a.fmod b) := by
      rw [Int.fmod_def, Int.fmod_def, Int.neg_fdiv_neg, Int.neg_mul]; omega
    rw [e] at h1 h2
    exact ⟨by omega, by omega⟩
theorem fdiv_in (a b : Int) (ha : I64 a) (hb : I64 b) (h : dvb a b = true) : I64 (a.fdiv b) := by
  obtain ⟨h0, h1⟩ := of_decide_eq_true h
  have hq := tdiv_in a b ha h
  obtain ⟨q1, q2⟩ := hq
  by_cases hr : a.tmod b = 0
  · rw [← fdiv_same h0 hr]; exact ⟨q1, q2⟩
  by_cases hs : decide (a < 0) = decide (b < 0)
  · rw [← fdiv_eqsign h0 hs]; exact ⟨q1, q2⟩
  rw [← fdiv_nesign h0 hr hs]
  refine ⟨?_, by omega⟩
  have := Int.natAbs_tdiv_le_natAbs a b
  by_cases hm : a.tdiv b = -9223372036854775808
  · exfalso
    obtain ⟨a1, a2⟩ := ha
    have ha' : a = -9223372036854775808 := by omega
    have hb1 : b.natAbs = 1 := by
      rcases Nat.lt_or_ge b.natAbs 2 with h2 | h2
      · omega
      · have : (a.tdiv b).natAbs < a.natAbs := by rw [Int.natAbs_tdiv]; exact Nat.div_lt_self (by omega) h2
        omega
    have : b = 1 ∨ b = -1 := by omega
    rcases this with rfl | rfl
    · simp at hr
    · exact h1 ⟨ha', rfl⟩
  · omega
theorem cdv_in (a b : Int) (ha : I64 a) (hb : I64 b) (h : dvb a b = true) : I64 (cdv a b) := by
  obtain ⟨h0, h1⟩ := of_decide_eq_true h
  have hf := fdiv_in a b ha hb h
  have hq := tdiv_in a b ha h
  by_cases hr : a.tmod b = 0
  · rw [cdv_dvd hr]; exact hf
  rw [cdv_ndvd h0 hr]
  by_cases hs : decide (a < 0) = decide (b < 0)
  · have e := fdiv_eqsign h0 hs
    obtain ⟨f1, f2⟩ := hf
    refine ⟨by omega, ?_⟩
    obtain ⟨a1, a2⟩ := ha
    have := Int.natAbs_tdiv_le_natAbs a b
    by_cases hm : a.fdiv b = 9223372036854775807
    · exfalso
      have hb1 : b.natAbs = 1 := by
        rcases Nat.lt_or_ge b.natAbs 2 with h2 | h2
        · omega
        · have h3 : (a.tdiv b).natAbs ≤ a.natAbs / 2 := by
            rw [Int.natAbs_tdiv]; exact Nat.div_le_div_left h2 (by decide)
          omega
      have : b = 1 ∨ b = -1 := by omega
      rcases this with rfl | rfl
      · simp at hr
      · simp at hr
    · omega
  · have e := fdiv_nesign h0 hr hs
    obtain ⟨q1, q2⟩ := hq
    obtain ⟨f1, f2⟩ := hf
    exact ⟨by omega, by omega⟩

/-! ### Products -/
def mag (a : Int) : Int := if a < 0 then -a else a
def hi64 (x y : Int) : Int := x * y / 18446744073709551616
def lo64 (x y : Int) : Int := x * y % 18446744073709551616
theorem mag_in (a : Int) (ha : I64 a) : U64 (mag a) := by
  obtain ⟨a1, a2⟩ := ha; unfold mag; split <;> exact ⟨by omega, by omega⟩
theorem mag_le (a : Int) (ha : I64 a) : 0 ≤ mag a ∧ mag a ≤ 9223372036854775808 := by
  obtain ⟨a1, a2⟩ := ha; unfold mag; split <;> exact ⟨by omega, by omega⟩
theorem mag_neg (a : Int) (ha : I64 a) (h : a < 0) : IntKind.u64.wrap (-IntKind.u64.wrap a) = mag a := by
  obtain ⟨a1, a2⟩ := ha
  unfold mag; rw [if_pos h, IntKind.wrap_u64, IntKind.wrap_u64]; omega
theorem mag_pos (a : Int) (ha : I64 a) (h : ¬ a < 0) : IntKind.u64.wrap a = mag a := by
  obtain ⟨a1, a2⟩ := ha
  unfold mag; rw [if_neg h, IntKind.wrap_u64]; omega
theorem hi64_in (x y : Int) (hx : U64 x) (hy : U64 y) : U64 (hi64 x y) := by
  obtain ⟨x1, x2⟩ := hx; obtain ⟨y1, y2⟩ := hy
  unfold hi64
  have h0 : 0 ≤ x * y := Int.mul_nonneg x1 y1
  have h1 : x * y ≤ 18446744073709551615 * 18446744073709551615 := Int.mul_le_mul x2 y2 y1 (by decide)
  generalize x * y = p at *
  exact ⟨by omega, by omega⟩
theorem lo64_in (x y : Int) : U64 (lo64 x y) := ⟨by unfold lo64; omega, by unfold lo64; omega⟩
theorem hilo (x y : Int) : x * y = hi64 x y * 18446744073709551616 + lo64 x y := by unfold hi64 lo64; omega
theorem mul_mag_same (a b : Int) (h : decide (a < 0) = decide (b < 0)) : a * b = mag a * mag b := by
  have h' : a < 0 ↔ b < 0 := decide_eq_decide.1 h
  unfold mag
  by_cases h1 : a < 0
  · rw [if_pos h1, if_pos (h'.1 h1), Int.neg_mul_neg]
  · rw [if_neg h1, if_neg (fun e => h1 (h'.2 e))]
theorem mul_mag_diff (a b : Int) (h : decide (a < 0) ≠ decide (b < 0)) : a * b = -(mag a * mag b) := by
  have h' : ¬ (a < 0 ↔ b < 0) := fun e => h (decide_eq_decide.2 e)
  unfold mag
  by_cases h1 : a < 0
  · rw [if_pos h1, if_neg (fun e => h' ⟨fun _ => e, fun _ => h1⟩), Int.neg_mul, Int.neg_neg]
  · have h2 : b < 0 := by
      by_cases h2 : b < 0
      · exact h2
      · exact absurd ⟨fun e => absurd e h1, fun e => absurd e h2⟩ h'
    rw [if_neg h1, if_pos h2, Int.mul_neg, Int.neg_neg]
theorem mul_hi_no (a b : Int) (ha : I64 a) (hb : I64 b) (h : hi64 (mag a) (mag b) ≠ 0) : ¬ I64 (a * b) := by
  have hh := hi64_in _ _ (mag_in a ha) (mag_in b hb)
  have hl := lo64_in (mag a) (mag b)
  have e := hilo (mag a) (mag b)
  obtain ⟨h1, h2⟩ := hh; obtain ⟨l1, l2⟩ := hl
  rintro ⟨r1, r2⟩
  by_cases hs : decide (a < 0) = decide (b < 0)
  · have := mul_mag_same a b hs; omega
  · have := mul_mag_diff a b hs; omega
theorem mul_lo_no (a b : Int) (h0 : hi64 (mag a) (mag b) = 0) (h : 9223372036854775808 < lo64 (mag a) (mag b)) : ¬ I64 (a * b) := by
  have e := hilo (mag a) (mag b)
  rw [h0] at e
  rintro ⟨r1, r2⟩
  by_cases hs : decide (a < 0) = decide (b < 0)
  · have := mul_mag_same a b hs; omega
  · have := mul_mag_diff a b hs; omega
theorem mul_top_no (a b : Int) (h0 : hi64 (mag a) (mag b) = 0) (h : 9223372036854775808 ≤ lo64 (mag a) (mag b)) (hs : decide (a < 0) = decide (b < 0)) : ¬ I64 (a * b) := by
  have e := hilo (mag a) (mag b)
  rw [h0] at e
  rintro ⟨r1, r2⟩
  have := mul_mag_same a b hs; omega
theorem mul_pos_yes (a b : Int) (h0 : hi64 (mag a) (mag b) = 0) (h : lo64 (mag a) (mag b) < 9223372036854775808) (hs : decide (a < 0) = decide (b < 0)) : I64 (a * b) ∧ wrap64 (lo64 (mag a) (mag b)) = a * b := by
  have e := hilo (mag a) (mag b)
  have hl := lo64_in (mag a) (mag b)
  obtain ⟨l1, l2⟩ := hl
  rw [h0] at e
  have e2 := mul_mag_same a b hs
  refine ⟨⟨by omega, by omega⟩, ?_⟩
  rw [wrap64_id _ ⟨by omega, by omega⟩]; omega
theorem wrap_neg_lo (l : Int) (l1 : 0 ≤ l) (h : l ≤ 9223372036854775808) : wrap64 (IntKind.u64.wrap (-l)) = -l := by
  simp only [wrap64, IntKind.wrap_u64]; omega
theorem mul_neg_yes (a b : Int) (h0 : hi64 (mag a) (mag b) = 0) (h : lo64 (mag a) (mag b) ≤ 9223372036854775808) (hs : decide (a < 0) ≠ decide (b < 0)) : I64 (a * b) ∧ wrap64 (IntKind.u64.wrap (-lo64 (mag a) (mag b))) = a * b := by
  have e := hilo (mag a) (mag b)
  have hl := lo64_in (mag a) (mag b)
  obtain ⟨l1, l2⟩ := hl
  rw [h0] at e
  have e2 := mul_mag_diff a b hs
  refine ⟨⟨by omega, by omega⟩, ?_⟩
  rw [wrap_neg_lo _ l1 h]; omega
theorem mul_zero_yes (a b : Int) (h0 : hi64 (mag a) (mag b) = 0) (h : lo64 (mag a) (mag b) = 0) : I64 (a * b) ∧ a * b = 0 := by
  have e := hilo (mag a) (mag b)
  rw [h0, h] at e
  have e2 : a * b = 0 := by
    by_cases hs : decide (a < 0) = decide (b < 0)
    · have := mul_mag_same a b hs; omega
    · have := mul_mag_diff a b hs; omega
  rw [e2]; exact ⟨i64_zero, rfl⟩

theorem dst_zero (a : Int) : IntKind.u64.wrap 0 = dst a a := by simp [dst, IntKind.wrap_u64]
theorem apply_wrap (a d : Int) : wrap64 (IntKind.u64.wrap (IntKind.u64.wrap a + d)) = wrap64 (a + d) := by
  simp only [wrap64, IntKind.wrap_u64, IntKind.wrap_i64]; omega
def near (a b eps : Int) : Bool := decide (0 ≤ eps) && decide (dst a b ≤ eps)
theorem near_pos (a b eps : Int) (h : 0 ≤ eps) (h' : eps ≤ 18446744073709551615) : decide (dst a b ≤ eps) = near a b eps := by
  simp [near, h]
theorem near_neg (a b eps : Int) (h : ¬ 0 ≤ eps) : false = near a b eps := by
  simp [near, h]

theorem hilo_nat (n m : Nat) : ((n * m / 18446744073709551616 : Nat) : Int) = hi64 n m := by
  unfold hi64; rw [Int.natCast_ediv, Int.natCast_mul]; rfl
theorem lo_nat (n m : Nat) : ((n * m % 18446744073709551616 : Nat) : Int) = lo64 n m := by
  unfold lo64; rw [Int.natCast_emod, Int.natCast_mul]; rfl
theorem mid_of_dst (a b : Int) (ha : I64 a) (hb : I64 b) (h : a ≤ b) : wrap64 (a + dst a b / 2) = (a + b) / 2 := by
  have e : a + dst a b / 2 = (a + b) / 2 := by unfold dst; split <;> omega
  rw [e, wrap64_id _ (mid_in a b ha hb)]

def sgB (p : Bool) (m : Int) : Bool := if p then decide (m ≤ 9223372036854775808) else decide (m ≤ 9223372036854775807)
def sgV (p : Bool) (m : Int) : Int := if sgB p m then (if p then -m else m) else 0
theorem sg_pos_no {m : Int} (h : 9223372036854775807 < m) : Ending.returned (.tuple #[.int .i64 0, .bool false]) = .returned (.tuple #[.int .i64 (sgV false m), .bool (sgB false m)]) := by
  have e : sgB false m = false := dF (by omega)
  simp [sgV, e]
theorem sg_neg_no {m : Int} (h : 9223372036854775808 < m) : Ending.returned (.tuple #[.int .i64 0, .bool false]) = .returned (.tuple #[.int .i64 (sgV true m), .bool (sgB true m)]) := by
  have e : sgB true m = false := dF (by omega)
  simp [sgV, e]
theorem sg_pos_yes {m x : Int} (h : m ≤ 9223372036854775807) (hx : x = m) : Ending.returned (.tuple #[.int .i64 x, .bool true]) = .returned (.tuple #[.int .i64 (sgV false m), .bool (sgB false m)]) := by
  have e : sgB false m = true := dT (by omega)
  simp [sgV, e, hx]
theorem sg_neg_yes {m x : Int} (h : m ≤ 9223372036854775808) (hx : x = -m) : Ending.returned (.tuple #[.int .i64 x, .bool true]) = .returned (.tuple #[.int .i64 (sgV true m), .bool (sgB true m)]) := by
  have e : sgB true m = true := dT (by omega)
  simp [sgV, e, hx]
theorem sg_mul_pos (a b : Int) (h0 : hi64 (mag a) (mag b) = 0) (hs : decide (a < 0) = decide (b < 0)) :
    Ending.returned (.tuple #[.int .i64 (sgV false (lo64 (mag a) (mag b))), .bool (sgB false (lo64 (mag a) (mag b)))]) = .returned (.tuple #[.int .i64 (orZ (rng (a * b)) (a * b)), .bool (rng (a * b))]) := by
  by_cases h : 9223372036854775807 < lo64 (mag a) (mag b)
  · rw [← sg_pos_no h]; exact no_ib rfl rfl (mul_top_no a b h0 (by omega) hs)
  · have V := mul_pos_yes a b h0 (by omega) hs
    rw [← sg_pos_yes (x := lo64 (mag a) (mag b)) (by omega) rfl]
    refine yes_ib ?_ rfl V.1
    have := lo64_in (mag a) (mag b)
    rw [← V.2, wrap64_id _ ⟨by have := this.1; omega, by omega⟩]
theorem sg_mul_neg (a b : Int) (h0 : hi64 (mag a) (mag b) = 0) (hs : decide (a < 0) ≠ decide (b < 0)) :
    Ending.returned (.tuple #[.int .i64 (sgV true (lo64 (mag a) (mag b))), .bool (sgB true (lo64 (mag a) (mag b)))]) = .returned (.tuple #[.int .i64 (orZ (rng (a * b)) (a * b)), .bool (rng (a * b))]) := by
  by_cases h : 9223372036854775808 < lo64 (mag a) (mag b)
  · rw [← sg_neg_no h]; exact no_ib rfl rfl (mul_lo_no a b h0 h)
  · have V := mul_neg_yes a b h0 (by omega) hs
    rw [← sg_neg_yes (x := -lo64 (mag a) (mag b)) (by omega) rfl]
    refine yes_ib ?_ rfl V.1
    have := lo64_in (mag a) (mag b)
    rw [← V.2, wrap_neg_lo _ this.1 (by omega)]
theorem sg_mul_zero (a b : Int) (h0 : hi64 (mag a) (mag b) = 0) (h : lo64 (mag a) (mag b) = 0) :
    Ending.returned (.tuple #[.int .i64 (sgV false (lo64 (mag a) (mag b))), .bool (sgB false (lo64 (mag a) (mag b)))]) = .returned (.tuple #[.int .i64 (orZ (rng (a * b)) (a * b)), .bool (rng (a * b))]) := by
  have V := mul_zero_yes a b h0 h
  rw [h]; exact yes_ib V.2.symm rfl V.1

theorem floors_eq (a b : Int) (ha : I64 a) : wrap64 (wrap64 (a.fdiv b * b) + a.fmod b) = a := by
  have e : a.fdiv b * b + a.fmod b = a := by rw [Int.mul_comm]; exact Int.mul_fdiv_add_fmod a b
  obtain ⟨a1, a2⟩ := ha
  generalize a.fdiv b * b = x at *
  simp only [wrap64]; omega
theorem cdv_eq (a b : Int) (hb : b ≠ 0) : cdv a b = a.fdiv b + if a.fmod b = 0 then 0 else 1 := by
  by_cases h : a.tmod b = 0
  · have h' : a.fmod b = 0 := by rw [← fmod_same h]; exact h
    rw [cdv_dvd h, if_pos h']; omega
  · have h' : a.fmod b ≠ 0 := fun e => h (Int.dvd_iff_tmod_eq_zero.1 (Int.dvd_iff_fmod_eq_zero.2 e))
    rw [cdv_ndvd hb h, if_neg h']
theorem fmod_bd (a b : Int) (hb : b ≠ 0) : dst (a.fmod b) 0 < dst b 0 ∧ (a.fmod b ≠ 0 → decide (a.fmod b < 0) = decide (b < 0)) := by
  by_cases hp : 0 < b
  · have h1 := Int.fmod_nonneg_of_pos a hp
    have h2 := Int.fmod_lt_of_pos a hp
    refine ⟨by unfold dst; split <;> split <;> omega, fun _ => ?_⟩
    rw [dF (by omega), dF (by omega)]
  · have h1 := Int.fmod_nonneg_of_pos (-a) (b := -b) (by omega)
    have h2 := Int.fmod_lt_of_pos (-a) (b := -b) (by omega)
    have e : (-a).fmod (-b) = -(a.fmod b) := by
      rw [Int.fmod_def, Int.fmod_def, Int.neg_fdiv_neg, Int.neg_mul]; omega
    rw [e] at h1 h2
    refine ⟨by unfold dst; split <;> split <;> omega, fun h => ?_⟩
    rw [dT (by omega), dT (by omega)]

theorem u64_wrap_in (x : Int) : U64 (IntKind.u64.wrap x) := by rw [IntKind.wrap_u64]; exact ⟨by omega, by omega⟩
theorem i64_wrap_in (x : Int) : I64 (wrap64 x) := by simp only [wrap64]; exact ⟨by omega, by omega⟩

end Go.Proofs.Ythcboomdkpiflaa
