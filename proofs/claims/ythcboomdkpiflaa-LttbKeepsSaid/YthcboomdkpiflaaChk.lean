/- Contracts of the functions of the packages checked and tscodecref01, for all int64 arguments. -/
import Derived.Test.YthcboomdkpiflaaRows
import Derived.Test.YthcboomdkpiflaaPlain
import Derived.Test.YthcboomdkpiflaaShelf
import Derived.WalkKit
import Derived.ProofKit
import Derived.WalkLawsBesides
import Derived.WalkSpells
import Derived.Outline
namespace Go.Proofs.Ythcboomdkpiflaa.Chk
open Go.ChangeShapes Go.WideShapes Go.ChangeAt Go.RowKit
set_option linter.unusedVariables false
set_option linter.unusedSimpArgs false



theorem radd_any (a b : Int) (ha : I64 a) (hb : I64 b) (w : World) :
    Calls Try.prog 45 #[.int .i64 a, .int .i64 b] w fun e w' => e = .returned (.tuple #[.int .i64 (orZ (rng (a + b)) (a + b)), .bool (rng (a + b))]) ∧ w = w' := by
  obtain ⟨a1, a2⟩ := ha; obtain ⟨b1, b2⟩ := hb
  by_cases c3 : 9223372036854775807 < a + b
  · have hw := wrap64_pos_over _ c3 (by omega)
    have t1 : decide (a < 0) = false := dF (by omega)
    have t2 : decide (0 < a) = true := dT (by omega)
    have t8 : decide (0 ≤ a) = true := dT (by omega)
    have t3 : decide (b < 0) = false := dF (by omega)
    have t4 : decide (0 < b) = true := dT (by omega)
    have t7 : decide (0 ≤ b) = true := dT (by omega)
    have t5 : decide (wrap64 (a + b) < 0) = true := dT hw
    have t6 : decide (wrap64 (a + b) ≤ 0) = true := dT (by omega)
    have t9 : decide (0 ≤ wrap64 (a + b)) = false := dF (by omega)
    clear hw
    go_enter Try.func45, Try.ntmps45
    go_wp2
    go_ret2
    exact ⟨no_ib rfl rfl (fun h => by have := h.2; omega), rfl⟩
  by_cases c4 : a + b < -9223372036854775808
  · have hw := wrap64_neg_over _ c4 (by omega)
    have t1 : decide (a < 0) = true := dT (by omega)
    have t2 : decide (0 < a) = false := dF (by omega)
    have t8 : decide (0 ≤ a) = false := dF (by omega)
    have t3 : decide (b < 0) = true := dT (by omega)
    have t4 : decide (0 < b) = false := dF (by omega)
    have t7 : decide (0 ≤ b) = false := dF (by omega)
    have t5 : decide (wrap64 (a + b) < 0) = false := dF (by omega)
    have t6 : decide (0 ≤ wrap64 (a + b)) = true := dT hw
    have t9 : decide (wrap64 (a + b) < 0) = false := dF (by omega)
    clear hw
    go_enter Try.func45, Try.ntmps45
    go_wp2
    go_ret2
    exact ⟨no_ib rfl rfl (fun h => by have := h.1; omega), rfl⟩
  have d1 : a + b ≤ 9223372036854775807 := by omega
  have d2 : -9223372036854775808 ≤ a + b := by omega
  clear c3 c4
  by_cases c1 : a < 0 <;> by_cases c2 : b < 0
  all_goals
    by_cases c3 : a + b < 0
    all_goals
      by_cases c4 : 0 < a <;> by_cases c5 : 0 < b
      all_goals
        first
        | (exfalso; omega)
        | (go_enter Try.func45, Try.ntmps45
           go_wp2
           all_goals (go_ret2; exact ⟨yes_ib rfl rfl ⟨by omega, by omega⟩, rfl⟩))



theorem rdist_any (a b : Int) (ha : I64 a) (hb : I64 b) (w : World) :
    Calls Try.prog 86 #[.int .i64 a, .int .i64 b] w fun e w' => e = .returned (.int .u64 (dst a b)) ∧ w = w' := by
  by_cases h : a < b
  · have h' : a ≤ b := by omega
    go_enter Try.func86, Try.ntmps86
    go_wp2
    go_ret
    exact ⟨ret_i (dst_wrap2 a b ha hb h'), rfl⟩
  · have h' : b ≤ a := by omega
    go_enter Try.func86, Try.ntmps86
    go_wp2
    all_goals go_ret
    all_goals first | exact ⟨ret_i (dst_wrap1 a b ha hb h'), rfl⟩ | (obtain rfl : a = b := by omega
                                                                     exact ⟨ret_i (dst_zero a), rfl⟩)







theorem rnear_any (a b eps : Int) (ha : I64 a) (hb : I64 b) (he : I64 eps) (w : World) :
    Calls Try.prog 75 #[.int .i64 a, .int .i64 b, .int .i64 eps] w fun e w' => e = .returned (.bool (near a b eps)) ∧ w = w' := by
  by_cases h : 0 ≤ eps
  · have hd := dst_in a b ha hb
    have hu : 0 ≤ eps ∧ eps ≤ 18446744073709551615 := ⟨h, by have := he.2; omega⟩
    obtain ⟨u1, u2⟩ := hu
    go_enter Try.func75, Try.ntmps75
    go_wp2_with (go_at_call 86; refine (rdist_any a b ha hb _).mono ?_; rintro e w' ⟨rfl, rfl⟩)
    go_ret
    exact ⟨ret_b (near_pos a b eps h u2), rfl⟩
  · go_enter Try.func75, Try.ntmps75
    go_wp2
    go_ret
    exact ⟨ret_b (near_neg a b eps (by omega)), rfl⟩









theorem mul64_any (x y : Int) (hx : U64 x) (hy : U64 y) (w : World) :
    Calls Try.prog 66 #[.int .u64 x, .int .u64 y] w fun e w' => e = .returned (.tuple #[.int .u64 (hi64 x y), .int .u64 (lo64 x y)]) ∧ w = w' := by
  obtain ⟨x1, x2⟩ := hx; obtain ⟨y1, y2⟩ := hy
  obtain ⟨n, rfl⟩ := Int.eq_ofNat_of_zero_le x1
  obtain ⟨m, rfl⟩ := Int.eq_ofNat_of_zero_le y1
  refine (Try.bits_Mul64 n m (by omega) (by omega) w).mono ?_
  rintro e w' ⟨rfl, rfl⟩
  exact ⟨by rw [hilo_nat n m, lo_nat n m], rfl⟩






end Go.Proofs.Ythcboomdkpiflaa.Chk
