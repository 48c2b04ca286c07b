/- Contracts of the functions of the packages checked and tscodecref01, for all int64 arguments. -/
import Derived.Test.YtenaeaojnebokaaRows
import Derived.Test.YtenaeaojnebokaaPlain
import Derived.Test.YtenaeaojnebokaaShelf
import Derived.WalkKit
import Derived.ProofKit
import Derived.WalkLawsBesides
import Derived.WalkSpells
import Derived.Outline
namespace Go.Proofs.Ytenaeaojnebokaa.Chk
open Go.ChangeShapes Go.WideShapes Go.ChangeAt Go.RowKit
set_option linter.unusedVariables false
set_option linter.unusedSimpArgs false

theorem add_any (a b : Int) (ha : I64 a) (hb : I64 b) (w : World) :
    Calls Try.prog 43 #[.int .i64 a, .int .i64 b] w fun e w' => e = .returned (.tuple #[.int .i64 (orZ (rng (a + b)) (a + b)), .bool (rng (a + b))]) ∧ w = w' := by
  obtain ⟨a1, a2⟩ := ha; obtain ⟨b1, b2⟩ := hb
  by_cases c3 : 9223372036854775807 < a + b
  · have hw := wrap64_pos_over _ c3 (by omega)
    have t1 : decide (a < 0) = false := dF (by omega)
    have t2 : decide (0 < a) = true := dT (by omega)
    have t8 : decide (0 ≤ a) = true := dT (by omega)
    have t3 : decide (b < 0) = false := dF (by omega)
    have t4 : decide (0 < b) = true := dT (by omega)
    have t7 : decide (0 ≤ b) = true := dT (by omega)
    have t5 : decide (wrap64 (a + b) < 0) = true := dT hw
    have t6 : decide (wrap64 (a + b) ≤ 0) = true := dT (by omega)
    have t9 : decide (0 ≤ wrap64 (a + b)) = false := dF (by omega)
    clear hw
    go_enter Try.func43, Try.ntmps43
    go_wp2
    go_ret2
    exact ⟨no_ib rfl rfl (fun h => by have := h.2; omega), rfl⟩
  by_cases c4 : a + b < -9223372036854775808
  · have hw := wrap64_neg_over _ c4 (by omega)
    have t1 : decide (a < 0) = true := dT (by omega)
    have t2 : decide (0 < a) = false := dF (by omega)
    have t8 : decide (0 ≤ a) = false := dF (by omega)
    have t3 : decide (b < 0) = true := dT (by omega)
    have t4 : decide (0 < b) = false := dF (by omega)
    have t7 : decide (0 ≤ b) = false := dF (by omega)
    have t5 : decide (wrap64 (a + b) < 0) = false := dF (by omega)
    have t6 : decide (0 ≤ wrap64 (a + b)) = true := dT hw
    have t9 : decide (wrap64 (a + b) < 0) = false := dF (by omega)
    clear hw
    go_enter Try.func43, Try.ntmps43
    go_wp2
    go_ret2
    exact ⟨no_ib rfl rfl (fun h => by have := h.1; omega), rfl⟩
  have d1 : a + b ≤ 9223372036854775807 := by omega
  have d2 : -9223372036854775808 ≤ a + b := by omega
  clear c3 c4
  by_cases c1 : a < 0 <;> by_cases c2 : b < 0
  all_goals
    by_cases c3 : a + b < 0
    all_goals
      by_cases c4 : 0 < a <;> by_cases c5 : 0 < b
      all_goals
        first
        | (exfalso; omega)
        | (go_enter Try.func43, Try.ntmps43
           go_wp2
           all_goals (go_ret2; exact ⟨yes_ib rfl rfl ⟨by omega, by omega⟩, rfl⟩))

theorem sub_any (a b : Int) (ha : I64 a) (hb : I64 b) (w : World) :
    Calls Try.prog 57 #[.int .i64 a, .int .i64 b] w fun e w' => e = .returned (.tuple #[.int .i64 (orZ (rng (a - b)) (a - b)), .bool (rng (a - b))]) ∧ w = w' := by
  obtain ⟨a1, a2⟩ := ha; obtain ⟨b1, b2⟩ := hb
  by_cases c3 : 9223372036854775807 < a - b
  · have hw := wrap64_pos_over _ c3 (by omega)
    have t1 : decide (a < 0) = false := dF (by omega)
    have t8 : decide (0 ≤ a) = true := dT (by omega)
    have t3 : decide (b < 0) = true := dT (by omega)
    have t4 : decide (0 < b) = false := dF (by omega)
    have t7 : decide (0 ≤ b) = false := dF (by omega)
    have t5 : decide (wrap64 (a - b) < 0) = true := dT hw
    have t6 : decide (wrap64 (a - b) ≤ 0) = true := dT (by omega)
    have t9 : decide (0 ≤ wrap64 (a - b)) = false := dF (by omega)
    clear hw
    go_enter Try.func57, Try.ntmps57
    go_wp2
    go_ret2
    exact ⟨no_ib rfl rfl (fun h => by have := h.2; omega), rfl⟩
  by_cases c4 : a - b < -9223372036854775808
  · have hw := wrap64_neg_over _ c4 (by omega)
    have t1 : decide (a < 0) = true := dT (by omega)
    have t2 : decide (0 < a) = false := dF (by omega)
    have t8 : decide (0 ≤ a) = false := dF (by omega)
    have t3 : decide (b < 0) = false := dF (by omega)
    have t4 : decide (0 < b) = true := dT (by omega)
    have t7 : decide (0 ≤ b) = true := dT (by omega)
    have t5 : decide (wrap64 (a - b) < 0) = false := dF (by omega)
    have t6 : decide (0 ≤ wrap64 (a - b)) = true := dT hw
    have t9 : decide (wrap64 (a - b) < 0) = false := dF (by omega)
    clear hw
    go_enter Try.func57, Try.ntmps57
    go_wp2
    go_ret2
    exact ⟨no_ib rfl rfl (fun h => by have := h.1; omega), rfl⟩
  have d1 : a - b ≤ 9223372036854775807 := by omega
  have d2 : -9223372036854775808 ≤ a - b := by omega
  clear c3 c4
  by_cases c1 : a < 0 <;> by_cases c2 : b < 0
  all_goals
    by_cases c3 : a - b < 0
    all_goals
      by_cases c4 : 0 < a <;> by_cases c5 : 0 < b
      all_goals
        first
        | (exfalso; omega)
        | (go_enter Try.func57, Try.ntmps57
           go_wp2
           all_goals (go_ret2; exact ⟨yes_ib rfl rfl ⟨by omega, by omega⟩, rfl⟩))

theorem radd_any (a b : Int) (ha : I64 a) (hb : I64 b) (w : World) :
    Calls Try.prog 56 #[.int .i64 a, .int .i64 b] w fun e w' => e = .returned (.tuple #[.int .i64 (orZ (rng (a + b)) (a + b)), .bool (rng (a + b))]) ∧ w = w' := by
  obtain ⟨a1, a2⟩ := ha; obtain ⟨b1, b2⟩ := hb
  by_cases c3 : 9223372036854775807 < a + b
  · have hw := wrap64_pos_over _ c3 (by omega)
    have t1 : decide (a < 0) = false := dF (by omega)
    have t2 : decide (0 < a) = true := dT (by omega)
    have t8 : decide (0 ≤ a) = true := dT (by omega)
    have t3 : decide (b < 0) = false := dF (by omega)
    have t4 : decide (0 < b) = true := dT (by omega)
    have t7 : decide (0 ≤ b) = true := dT (by omega)
    have t5 : decide (wrap64 (a + b) < 0) = true := dT hw
    have t6 : decide (wrap64 (a + b) ≤ 0) = true := dT (by omega)
    have t9 : decide (0 ≤ wrap64 (a + b)) = false := dF (by omega)
    clear hw
    go_enter Try.func56, Try.ntmps56
    go_wp2
    go_ret2
    exact ⟨no_ib rfl rfl (fun h => by have := h.2; omega), rfl⟩
  by_cases c4 : a + b < -9223372036854775808
  · have hw := wrap64_neg_over _ c4 (by omega)
    have t1 : decide (a < 0) = true := dT (by omega)
    have t2 : decide (0 < a) = false := dF (by omega)
    have t8 : decide (0 ≤ a) = false := dF (by omega)
    have t3 : decide (b < 0) = true := dT (by omega)
    have t4 : decide (0 < b) = false := dF (by omega)
    have t7 : decide (0 ≤ b) = false := dF (by omega)
    have t5 : decide (wrap64 (a + b) < 0) = false := dF (by omega)
    have t6 : decide (0 ≤ wrap64 (a + b)) = true := dT hw
    have t9 : decide (wrap64 (a + b) < 0) = false := dF (by omega)
    clear hw
    go_enter Try.func56, Try.ntmps56
    go_wp2
    go_ret2
    exact ⟨no_ib rfl rfl (fun h => by have := h.1; omega), rfl⟩
  have d1 : a + b ≤ 9223372036854775807 := by omega
  have d2 : -9223372036854775808 ≤ a + b := by omega
  clear c3 c4
  by_cases c1 : a < 0 <;> by_cases c2 : b < 0
  all_goals
    by_cases c3 : a + b < 0
    all_goals
      by_cases c4 : 0 < a <;> by_cases c5 : 0 < b
      all_goals
        first
        | (exfalso; omega)
        | (go_enter Try.func56, Try.ntmps56
           go_wp2
           all_goals (go_ret2; exact ⟨yes_ib rfl rfl ⟨by omega, by omega⟩, rfl⟩))

theorem rsub_any (a b : Int) (ha : I64 a) (hb : I64 b) (w : World) :
    Calls Try.prog 58 #[.int .i64 a, .int .i64 b] w fun e w' => e = .returned (.tuple #[.int .i64 (orZ (rng (a - b)) (a - b)), .bool (rng (a - b))]) ∧ w = w' := by
  obtain ⟨a1, a2⟩ := ha; obtain ⟨b1, b2⟩ := hb
  by_cases c3 : 9223372036854775807 < a - b
  · have hw := wrap64_pos_over _ c3 (by omega)
    have t1 : decide (a < 0) = false := dF (by omega)
    have t8 : decide (0 ≤ a) = true := dT (by omega)
    have t3 : decide (b < 0) = true := dT (by omega)
    have t4 : decide (0 < b) = false := dF (by omega)
    have t7 : decide (0 ≤ b) = false := dF (by omega)
    have t5 : decide (wrap64 (a - b) < 0) = true := dT hw
    have t6 : decide (wrap64 (a - b) ≤ 0) = true := dT (by omega)
    have t9 : decide (0 ≤ wrap64 (a - b)) = false := dF (by omega)
    clear hw
    go_enter Try.func58, Try.ntmps58
    go_wp2
    go_ret2
    exact ⟨no_ib rfl rfl (fun h => by have := h.2; omega), rfl⟩
  by_cases c4 : a - b < -9223372036854775808
  · have hw := wrap64_neg_over _ c4 (by omega)
    have t1 : decide (a < 0) = true := dT (by omega)
    have t2 : decide (0 < a) = false := dF (by omega)
    have t8 : decide (0 ≤ a) = false := dF (by omega)
    have t3 : decide (b < 0) = false := dF (by omega)
    have t4 : decide (0 < b) = true := dT (by omega)
    have t7 : decide (0 ≤ b) = true := dT (by omega)
    have t5 : decide (wrap64 (a - b) < 0) = false := dF (by omega)
    have t6 : decide (0 ≤ wrap64 (a - b)) = true := dT hw
    have t9 : decide (wrap64 (a - b) < 0) = false := dF (by omega)
    clear hw
    go_enter Try.func58, Try.ntmps58
    go_wp2
    go_ret2
    exact ⟨no_ib rfl rfl (fun h => by have := h.1; omega), rfl⟩
  have d1 : a - b ≤ 9223372036854775807 := by omega
  have d2 : -9223372036854775808 ≤ a - b := by omega
  clear c3 c4
  by_cases c1 : a < 0 <;> by_cases c2 : b < 0
  all_goals
    by_cases c3 : a - b < 0
    all_goals
      by_cases c4 : 0 < a <;> by_cases c5 : 0 < b
      all_goals
        first
        | (exfalso; omega)
        | (go_enter Try.func58, Try.ntmps58
           go_wp2
           all_goals (go_ret2; exact ⟨yes_ib rfl rfl ⟨by omega, by omega⟩, rfl⟩))

theorem dist_any (a b : Int) (ha : I64 a) (hb : I64 b) (w : World) :
    Calls Try.prog 14 #[.int .i64 a, .int .i64 b] w fun e w' => e = .returned (.int .u64 (dst a b)) ∧ w = w' := by
  by_cases h : a < b
  · have h' : a ≤ b := by omega
    go_enter Try.func14, Try.ntmps14
    go_wp2
    go_ret
    exact ⟨ret_i (dst_wrap2 a b ha hb h'), rfl⟩
  · have h' : b ≤ a := by omega
    go_enter Try.func14, Try.ntmps14
    go_wp2
    all_goals go_ret
    all_goals first | exact ⟨ret_i (dst_wrap1 a b ha hb h'), rfl⟩ | (obtain rfl : a = b := by omega
                                                                     exact ⟨ret_i (dst_zero a), rfl⟩)

theorem rdist_any (a b : Int) (ha : I64 a) (hb : I64 b) (w : World) :
    Calls Try.prog 37 #[.int .i64 a, .int .i64 b] w fun e w' => e = .returned (.int .u64 (dst a b)) ∧ w = w' := by
  by_cases h : a < b
  · have h' : a ≤ b := by omega
    go_enter Try.func37, Try.ntmps37
    go_wp2
    go_ret
    exact ⟨ret_i (dst_wrap2 a b ha hb h'), rfl⟩
  · have h' : b ≤ a := by omega
    go_enter Try.func37, Try.ntmps37
    go_wp2
    all_goals go_ret
    all_goals first | exact ⟨ret_i (dst_wrap1 a b ha hb h'), rfl⟩ | (obtain rfl : a = b := by omega
                                                                     exact ⟨ret_i (dst_zero a), rfl⟩)

theorem diff_any (a b : Int) (w : World) :
    Calls Try.prog 23 #[.int .i64 a, .int .i64 b] w fun e w' => e = .returned (.int .u64 (IntKind.u64.wrap (a - b))) ∧ w = w' := by
  go_enter Try.func23, Try.ntmps23
  go_wp2
  go_ret
  exact ⟨ret_i (by rw [IntKind.wrap_u64, IntKind.wrap_u64, IntKind.wrap_u64, IntKind.wrap_u64, ← Int.sub_emod]), rfl⟩

theorem rdiff_any (a b : Int) (w : World) :
    Calls Try.prog 61 #[.int .i64 a, .int .i64 b] w fun e w' => e = .returned (.int .u64 (IntKind.u64.wrap (a - b))) ∧ w = w' := by
  go_enter Try.func61, Try.ntmps61
  go_wp2
  go_ret
  exact ⟨ret_i (by rw [IntKind.wrap_u64, IntKind.wrap_u64, IntKind.wrap_u64, IntKind.wrap_u64, ← Int.sub_emod]), rfl⟩

theorem apply_any (a d : Int) (hd : U64 d) (w : World) :
    Calls Try.prog 21 #[.int .i64 a, .int .u64 d] w fun e w' => e = .returned (.int .i64 (wrap64 (a + d))) ∧ w = w' := by
  go_enter Try.func21, Try.ntmps21
  go_wp2
  go_ret
  exact ⟨ret_i (apply_wrap a d), rfl⟩

theorem rapply_any (a d : Int) (hd : U64 d) (w : World) :
    Calls Try.prog 22 #[.int .i64 a, .int .u64 d] w fun e w' => e = .returned (.int .i64 (wrap64 (a + d))) ∧ w = w' := by
  go_enter Try.func22, Try.ntmps22
  go_wp2
  go_ret
  exact ⟨ret_i (apply_wrap a d), rfl⟩

theorem mid_any (a b : Int) (ha : I64 a) (hb : I64 b) (w : World) :
    Calls Try.prog 13 #[.int .i64 a, .int .i64 b] w fun e w' => e = .returned (.int .i64 ((a + b) / 2)) ∧ w = w' := by
  go_enter Try.func13, Try.ntmps13
  go_wp2
  go_ret
  exact ⟨ret_i (mid_bits a b ha hb), rfl⟩

theorem near_any (a b eps : Int) (ha : I64 a) (hb : I64 b) (he : I64 eps) (w : World) :
    Calls Try.prog 19 #[.int .i64 a, .int .i64 b, .int .i64 eps] w fun e w' => e = .returned (.bool (near a b eps)) ∧ w = w' := by
  by_cases h : 0 ≤ eps
  · have hd := dst_in a b ha hb
    have hu : 0 ≤ eps ∧ eps ≤ 18446744073709551615 := ⟨h, by have := he.2; omega⟩
    obtain ⟨u1, u2⟩ := hu
    go_enter Try.func19, Try.ntmps19
    go_wp2_with (go_at_call 14; refine (dist_any a b ha hb _).mono ?_; rintro e w' ⟨rfl, rfl⟩)
    go_ret
    exact ⟨ret_b (near_pos a b eps h u2), rfl⟩
  · go_enter Try.func19, Try.ntmps19
    go_wp2
    go_ret
    exact ⟨ret_b (near_neg a b eps (by omega)), rfl⟩

theorem rnear_any (a b eps : Int) (ha : I64 a) (hb : I64 b) (he : I64 eps) (w : World) :
    Calls Try.prog 20 #[.int .i64 a, .int .i64 b, .int .i64 eps] w fun e w' => e = .returned (.bool (near a b eps)) ∧ w = w' := by
  by_cases h : 0 ≤ eps
  · have hd := dst_in a b ha hb
    have hu : 0 ≤ eps ∧ eps ≤ 18446744073709551615 := ⟨h, by have := he.2; omega⟩
    obtain ⟨u1, u2⟩ := hu
    go_enter Try.func20, Try.ntmps20
    go_wp2_with (go_at_call 37; refine (rdist_any a b ha hb _).mono ?_; rintro e w' ⟨rfl, rfl⟩)
    go_ret
    exact ⟨ret_b (near_pos a b eps h u2), rfl⟩
  · go_enter Try.func20, Try.ntmps20
    go_wp2
    go_ret
    exact ⟨ret_b (near_neg a b eps (by omega)), rfl⟩

theorem fdiv_any (a b : Int) (ha : I64 a) (hb : I64 b) (w : World) :
    Calls Try.prog 25 #[.int .i64 a, .int .i64 b] w fun e w' => e = .returned (.tuple #[.int .i64 (orZ (dvb a b) (a.fdiv b)), .bool (dvb a b)]) ∧ w = w' := by
  obtain ⟨a1, a2⟩ := ha; obtain ⟨b1, b2⟩ := hb
  by_cases h0 : b = 0
  · have z := dvb_no0 (a := a) h0
    have t1 : (b == 0) = true := beq_iff_eq.2 h0
    have t2 : (b != 0) = false := by rw [bne, t1]; rfl
    have H := hid z; clear z h0
    go_enter Try.func25, Try.ntmps25
    go_wp2
    go_ret2
    exact ⟨by rw [H.out]; rfl, rfl⟩
  have t1 : (b == 0) = false := beq_eq_false_iff_ne.2 h0
  have t2 : (b != 0) = true := bne_iff_ne.2 h0
  by_cases hm : a = -9223372036854775808 ∧ b = -1
  · have z := dvb_no1 hm.1 hm.2
    have t3 : (a == -9223372036854775808) = true := beq_iff_eq.2 hm.1
    have t4 : (a != -9223372036854775808) = false := by rw [bne, t3]; rfl
    have t5 : (b == -1) = true := beq_iff_eq.2 hm.2
    have t6 : (b != -1) = false := by rw [bne, t5]; rfl
    have H := hid z; clear z hm h0
    go_enter Try.func25, Try.ntmps25
    go_wp2
    go_ret2
    exact ⟨by rw [H.out]; rfl, rfl⟩
  have z := dvb_yes h0 hm
  have hq := tdiv_in a b ⟨a1, a2⟩ z
  have hf := fdiv_in a b ⟨a1, a2⟩ ⟨b1, b2⟩ z
  have Q := hid (wrap64_id _ hq)
  have Z := hid z
  have H0 := hid h0
  have C : ∀ x, x = a.fdiv b → Ending.returned (.tuple #[.int .i64 x, .bool true]) = .returned (.tuple #[.int .i64 (orZ (dvb a b) (a.fdiv b)), .bool (dvb a b)]) := fun x e => by rw [Z.out, e]; rfl
  have C := hid C
  clear z hq
  have F := hid hf; clear hf
  have T3 : Hid ((a == -9223372036854775808) = false ∧ (a != -9223372036854775808) = true ∨ (b == -1) = false ∧ (b != -1) = true) := by
    by_cases h1 : a = -9223372036854775808
    · have h2 : b ≠ -1 := fun e => hm ⟨h1, e⟩
      exact .inr ⟨beq_eq_false_iff_ne.2 h2, bne_iff_ne.2 h2⟩
    · exact .inl ⟨beq_eq_false_iff_ne.2 h1, bne_iff_ne.2 h1⟩
  clear hm h0
  have W : ∀ T : Prop, (∀ (s1 s2 : Bool), (a == -9223372036854775808) = s1 → (a != -9223372036854775808) = !s1 → (b == -1) = s2 → (b != -1) = !s2 → (s1 && s2) = false → T) → T := by
    intro T k
    refine k _ _ rfl rfl rfl rfl ?_
    rcases T3.out with h | h <;> simp [h.1]
  clear T3
  refine W _ fun s1 s2 u1 u2 u3 u4 u5 => ?_
  clear W
  by_cases hr : a.tmod b = 0
  · have R := hid (fdiv_same H0.out hr)
    have V := hid hr
    have t7 : (a.tmod b == 0) = true := beq_iff_eq.2 hr
    have t8 : (a.tmod b != 0) = false := by rw [bne, t7]; rfl
    clear hr
    cases s1 <;> cases s2 <;> first
      | exact absurd u5 (by decide)
      | (clear u5
         go_enter Try.func25, Try.ntmps25
         go_wp2
         go_ret2
         exact ⟨C.out _ (by rw [Q.out, R.out]), rfl⟩)
  have t7 : (a.tmod b == 0) = false := beq_eq_false_iff_ne.2 hr
  have t8 : (a.tmod b != 0) = true := bne_iff_ne.2 hr
  by_cases hs : decide (a < 0) = decide (b < 0)
  · have R := hid (fdiv_eqsign H0.out hs)
    have V := hid hr
    clear hr
    have t9 : (decide (a < 0) == decide (b < 0)) = true := beq_iff_eq.2 hs
    have t10 : (!decide (a < 0) == decide (b < 0)) = false := by rw [hs]; cases decide (b < 0) <;> rfl
    have t11 : (decide (a < 0) != decide (b < 0)) = false := by rw [bne, t9]; rfl
    clear hs
    cases s1 <;> cases s2 <;> first
      | exact absurd u5 (by decide)
      | (clear u5
         go_enter Try.func25, Try.ntmps25
         go_wp2
         go_ret2
         exact ⟨C.out _ (by rw [Q.out, R.out]), rfl⟩)
  · have R := hid (fdiv_nesign H0.out hr hs)
    have V := hid hr
    clear hr
    have t9 : (decide (a < 0) == decide (b < 0)) = false := beq_eq_false_iff_ne.2 hs
    have t10 : (!decide (a < 0) == decide (b < 0)) = true := by revert hs; cases decide (a < 0) <;> cases decide (b < 0) <;> simp
    have t11 : (decide (a < 0) != decide (b < 0)) = true := bne_iff_ne.2 hs
    clear hs
    cases s1 <;> cases s2 <;> first
      | exact absurd u5 (by decide)
      | (clear u5
         go_enter Try.func25, Try.ntmps25
         go_wp2
         go_ret2
         exact ⟨C.out _ (by have := F.out; rw [Q.out, R.out, wrap64_id _ this]), rfl⟩)

theorem rfdiv_any (a b : Int) (ha : I64 a) (hb : I64 b) (w : World) :
    Calls Try.prog 45 #[.int .i64 a, .int .i64 b] w fun e w' => e = .returned (.tuple #[.int .i64 (orZ (dvb a b) (a.fdiv b)), .bool (dvb a b)]) ∧ w = w' := by
  obtain ⟨a1, a2⟩ := ha; obtain ⟨b1, b2⟩ := hb
  by_cases h0 : b = 0
  · have z := dvb_no0 (a := a) h0
    have t1 : (b == 0) = true := beq_iff_eq.2 h0
    have t2 : (b != 0) = false := by rw [bne, t1]; rfl
    have H := hid z; clear z h0
    go_enter Try.func45, Try.ntmps45
    go_wp2
    go_ret2
    exact ⟨by rw [H.out]; rfl, rfl⟩
  have t1 : (b == 0) = false := beq_eq_false_iff_ne.2 h0
  have t2 : (b != 0) = true := bne_iff_ne.2 h0
  by_cases hm : a = -9223372036854775808 ∧ b = -1
  · have z := dvb_no1 hm.1 hm.2
    have t3 : (a == -9223372036854775808) = true := beq_iff_eq.2 hm.1
    have t4 : (a != -9223372036854775808) = false := by rw [bne, t3]; rfl
    have t5 : (b == -1) = true := beq_iff_eq.2 hm.2
    have t6 : (b != -1) = false := by rw [bne, t5]; rfl
    have H := hid z; clear z hm h0
    go_enter Try.func45, Try.ntmps45
    go_wp2
    go_ret2
    exact ⟨by rw [H.out]; rfl, rfl⟩
  have z := dvb_yes h0 hm
  have hq := tdiv_in a b ⟨a1, a2⟩ z
  have hf := fdiv_in a b ⟨a1, a2⟩ ⟨b1, b2⟩ z
  have Q := hid (wrap64_id _ hq)
  have Z := hid z
  have H0 := hid h0
  have C : ∀ x, x = a.fdiv b → Ending.returned (.tuple #[.int .i64 x, .bool true]) = .returned (.tuple #[.int .i64 (orZ (dvb a b) (a.fdiv b)), .bool (dvb a b)]) := fun x e => by rw [Z.out, e]; rfl
  have C := hid C
  clear z hq
  have F := hid hf; clear hf
  have T3 : Hid ((a == -9223372036854775808) = false ∧ (a != -9223372036854775808) = true ∨ (b == -1) = false ∧ (b != -1) = true) := by
    by_cases h1 : a = -9223372036854775808
    · have h2 : b ≠ -1 := fun e => hm ⟨h1, e⟩
      exact .inr ⟨beq_eq_false_iff_ne.2 h2, bne_iff_ne.2 h2⟩
    · exact .inl ⟨beq_eq_false_iff_ne.2 h1, bne_iff_ne.2 h1⟩
  clear hm h0
  have W : ∀ T : Prop, (∀ (s1 s2 : Bool), (a == -9223372036854775808) = s1 → (a != -9223372036854775808) = !s1 → (b == -1) = s2 → (b != -1) = !s2 → (s1 && s2) = false → T) → T := by
    intro T k
    refine k _ _ rfl rfl rfl rfl ?_
    rcases T3.out with h | h <;> simp [h.1]
  clear T3
  refine W _ fun s1 s2 u1 u2 u3 u4 u5 => ?_
  clear W
  by_cases hr : a.tmod b = 0
  · have R := hid (fdiv_same H0.out hr)
    have V := hid hr
    have t7 : (a.tmod b == 0) = true := beq_iff_eq.2 hr
    have t8 : (a.tmod b != 0) = false := by rw [bne, t7]; rfl
    clear hr
    cases s1 <;> cases s2 <;> first
      | exact absurd u5 (by decide)
      | (clear u5
         go_enter Try.func45, Try.ntmps45
         go_wp2
         go_ret2
         exact ⟨C.out _ (by rw [Q.out, R.out]), rfl⟩)
  have t7 : (a.tmod b == 0) = false := beq_eq_false_iff_ne.2 hr
  have t8 : (a.tmod b != 0) = true := bne_iff_ne.2 hr
  by_cases hs : decide (a < 0) = decide (b < 0)
  · have R := hid (fdiv_eqsign H0.out hs)
    have V := hid hr
    clear hr
    have t9 : (decide (a < 0) == decide (b < 0)) = true := beq_iff_eq.2 hs
    have t10 : (!decide (a < 0) == decide (b < 0)) = false := by rw [hs]; cases decide (b < 0) <;> rfl
    have t11 : (decide (a < 0) != decide (b < 0)) = false := by rw [bne, t9]; rfl
    clear hs
    cases s1 <;> cases s2 <;> first
      | exact absurd u5 (by decide)
      | (clear u5
         go_enter Try.func45, Try.ntmps45
         go_wp2
         go_ret2
         exact ⟨C.out _ (by rw [Q.out, R.out]), rfl⟩)
  · have R := hid (fdiv_nesign H0.out hr hs)
    have V := hid hr
    clear hr
    have t9 : (decide (a < 0) == decide (b < 0)) = false := beq_eq_false_iff_ne.2 hs
    have t10 : (!decide (a < 0) == decide (b < 0)) = true := by revert hs; cases decide (a < 0) <;> cases decide (b < 0) <;> simp
    have t11 : (decide (a < 0) != decide (b < 0)) = true := bne_iff_ne.2 hs
    clear hs
    cases s1 <;> cases s2 <;> first
      | exact absurd u5 (by decide)
      | (clear u5
         go_enter Try.func45, Try.ntmps45
         go_wp2
         go_ret2
         exact ⟨C.out _ (by have := F.out; rw [Q.out, R.out, wrap64_id _ this]), rfl⟩)

theorem cdiv_any (a b : Int) (ha : I64 a) (hb : I64 b) (w : World) :
    Calls Try.prog 27 #[.int .i64 a, .int .i64 b] w fun e w' => e = .returned (.tuple #[.int .i64 (orZ (dvb a b) (cdv a b)), .bool (dvb a b)]) ∧ w = w' := by
  obtain ⟨a1, a2⟩ := ha; obtain ⟨b1, b2⟩ := hb
  by_cases h0 : b = 0
  · have z := dvb_no0 (a := a) h0
    have t1 : (b == 0) = true := beq_iff_eq.2 h0
    have t2 : (b != 0) = false := by rw [bne, t1]; rfl
    have H := hid z; clear z h0
    go_enter Try.func27, Try.ntmps27
    go_wp2
    go_ret2
    exact ⟨by rw [H.out]; rfl, rfl⟩
  have t1 : (b == 0) = false := beq_eq_false_iff_ne.2 h0
  have t2 : (b != 0) = true := bne_iff_ne.2 h0
  by_cases hm : a = -9223372036854775808 ∧ b = -1
  · have z := dvb_no1 hm.1 hm.2
    have t3 : (a == -9223372036854775808) = true := beq_iff_eq.2 hm.1
    have t4 : (a != -9223372036854775808) = false := by rw [bne, t3]; rfl
    have t5 : (b == -1) = true := beq_iff_eq.2 hm.2
    have t6 : (b != -1) = false := by rw [bne, t5]; rfl
    have H := hid z; clear z hm h0
    go_enter Try.func27, Try.ntmps27
    go_wp2
    go_ret2
    exact ⟨by rw [H.out]; rfl, rfl⟩
  have z := dvb_yes h0 hm
  have hq := tdiv_in a b ⟨a1, a2⟩ z
  have hf := cdv_in a b ⟨a1, a2⟩ ⟨b1, b2⟩ z
  have Q := hid (wrap64_id _ hq)
  have Z := hid z
  have H0 := hid h0
  have C : ∀ x, x = cdv a b → Ending.returned (.tuple #[.int .i64 x, .bool true]) = .returned (.tuple #[.int .i64 (orZ (dvb a b) (cdv a b)), .bool (dvb a b)]) := fun x e => by rw [Z.out, e]; rfl
  have C := hid C
  clear z hq
  have F := hid hf; clear hf
  have T3 : Hid ((a == -9223372036854775808) = false ∧ (a != -9223372036854775808) = true ∨ (b == -1) = false ∧ (b != -1) = true) := by
    by_cases h1 : a = -9223372036854775808
    · have h2 : b ≠ -1 := fun e => hm ⟨h1, e⟩
      exact .inr ⟨beq_eq_false_iff_ne.2 h2, bne_iff_ne.2 h2⟩
    · exact .inl ⟨beq_eq_false_iff_ne.2 h1, bne_iff_ne.2 h1⟩
  clear hm h0
  have W : ∀ T : Prop, (∀ (s1 s2 : Bool), (a == -9223372036854775808) = s1 → (a != -9223372036854775808) = !s1 → (b == -1) = s2 → (b != -1) = !s2 → (s1 && s2) = false → T) → T := by
    intro T k
    refine k _ _ rfl rfl rfl rfl ?_
    rcases T3.out with h | h <;> simp [h.1]
  clear T3
  refine W _ fun s1 s2 u1 u2 u3 u4 u5 => ?_
  clear W
  by_cases hr : a.tmod b = 0
  · have R := hid (fdiv_same H0.out hr)
    have V := hid hr
    have t7 : (a.tmod b == 0) = true := beq_iff_eq.2 hr
    have t8 : (a.tmod b != 0) = false := by rw [bne, t7]; rfl
    clear hr
    cases s1 <;> cases s2 <;> first
      | exact absurd u5 (by decide)
      | (clear u5
         go_enter Try.func27, Try.ntmps27
         go_wp2
         go_ret2
         exact ⟨C.out _ (by rw [Q.out, R.out]; exact (cdv_dvd V.out).symm), rfl⟩)
  have t7 : (a.tmod b == 0) = false := beq_eq_false_iff_ne.2 hr
  have t8 : (a.tmod b != 0) = true := bne_iff_ne.2 hr
  by_cases hs : decide (a < 0) = decide (b < 0)
  · have R := hid (fdiv_eqsign H0.out hs)
    have V := hid hr
    clear hr
    have t9 : (decide (a < 0) == decide (b < 0)) = true := beq_iff_eq.2 hs
    have t10 : (!decide (a < 0) == decide (b < 0)) = false := by rw [hs]; cases decide (b < 0) <;> rfl
    have t11 : (decide (a < 0) != decide (b < 0)) = false := by rw [bne, t9]; rfl
    clear hs
    cases s1 <;> cases s2 <;> first
      | exact absurd u5 (by decide)
      | (clear u5
         go_enter Try.func27, Try.ntmps27
         go_wp2
         go_ret2
         exact ⟨C.out _ (by have := F.out; rw [Q.out, R.out, ← cdv_ndvd H0.out V.out, wrap64_id _ this]), rfl⟩)
  · have R := hid (fdiv_nesign H0.out hr hs)
    have V := hid hr
    clear hr
    have t9 : (decide (a < 0) == decide (b < 0)) = false := beq_eq_false_iff_ne.2 hs
    have t10 : (!decide (a < 0) == decide (b < 0)) = true := by revert hs; cases decide (a < 0) <;> cases decide (b < 0) <;> simp
    have t11 : (decide (a < 0) != decide (b < 0)) = true := bne_iff_ne.2 hs
    clear hs
    cases s1 <;> cases s2 <;> first
      | exact absurd u5 (by decide)
      | (clear u5
         go_enter Try.func27, Try.ntmps27
         go_wp2
         go_ret2
         exact ⟨C.out _ (by rw [Q.out, cdv_ndvd H0.out V.out, ← R.out]; omega), rfl⟩)

theorem rcdiv_any (a b : Int) (ha : I64 a) (hb : I64 b) (w : World) :
    Calls Try.prog 46 #[.int .i64 a, .int .i64 b] w fun e w' => e = .returned (.tuple #[.int .i64 (orZ (dvb a b) (cdv a b)), .bool (dvb a b)]) ∧ w = w' := by
  obtain ⟨a1, a2⟩ := ha; obtain ⟨b1, b2⟩ := hb
  by_cases h0 : b = 0
  · have z := dvb_no0 (a := a) h0
    have t1 : (b == 0) = true := beq_iff_eq.2 h0
    have t2 : (b != 0) = false := by rw [bne, t1]; rfl
    have H := hid z; clear z h0
    go_enter Try.func46, Try.ntmps46
    go_wp2
    go_ret2
    exact ⟨by rw [H.out]; rfl, rfl⟩
  have t1 : (b == 0) = false := beq_eq_false_iff_ne.2 h0
  have t2 : (b != 0) = true := bne_iff_ne.2 h0
  by_cases hm : a = -9223372036854775808 ∧ b = -1
  · have z := dvb_no1 hm.1 hm.2
    have t3 : (a == -9223372036854775808) = true := beq_iff_eq.2 hm.1
    have t4 : (a != -9223372036854775808) = false := by rw [bne, t3]; rfl
    have t5 : (b == -1) = true := beq_iff_eq.2 hm.2
    have t6 : (b != -1) = false := by rw [bne, t5]; rfl
    have H := hid z; clear z hm h0
    go_enter Try.func46, Try.ntmps46
    go_wp2
    go_ret2
    exact ⟨by rw [H.out]; rfl, rfl⟩
  have z := dvb_yes h0 hm
  have hq := tdiv_in a b ⟨a1, a2⟩ z
  have hf := cdv_in a b ⟨a1, a2⟩ ⟨b1, b2⟩ z
  have Q := hid (wrap64_id _ hq)
  have Z := hid z
  have H0 := hid h0
  have C : ∀ x, x = cdv a b → Ending.returned (.tuple #[.int .i64 x, .bool true]) = .returned (.tuple #[.int .i64 (orZ (dvb a b) (cdv a b)), .bool (dvb a b)]) := fun x e => by rw [Z.out, e]; rfl
  have C := hid C
  clear z hq
  have F := hid hf; clear hf
  have T3 : Hid ((a == -9223372036854775808) = false ∧ (a != -9223372036854775808) = true ∨ (b == -1) = false ∧ (b != -1) = true) := by
    by_cases h1 : a = -9223372036854775808
    · have h2 : b ≠ -1 := fun e => hm ⟨h1, e⟩
      exact .inr ⟨beq_eq_false_iff_ne.2 h2, bne_iff_ne.2 h2⟩
    · exact .inl ⟨beq_eq_false_iff_ne.2 h1, bne_iff_ne.2 h1⟩
  clear hm h0
  have W : ∀ T : Prop, (∀ (s1 s2 : Bool), (a == -9223372036854775808) = s1 → (a != -9223372036854775808) = !s1 → (b == -1) = s2 → (b != -1) = !s2 → (s1 && s2) = false → T) → T := by
    intro T k
    refine k _ _ rfl rfl rfl rfl ?_
    rcases T3.out with h | h <;> simp [h.1]
  clear T3
  refine W _ fun s1 s2 u1 u2 u3 u4 u5 => ?_
  clear W
  by_cases hr : a.tmod b = 0
  · have R := hid (fdiv_same H0.out hr)
    have V := hid hr
    have t7 : (a.tmod b == 0) = true := beq_iff_eq.2 hr
    have t8 : (a.tmod b != 0) = false := by rw [bne, t7]; rfl
    clear hr
    cases s1 <;> cases s2 <;> first
      | exact absurd u5 (by decide)
      | (clear u5
         go_enter Try.func46, Try.ntmps46
         go_wp2
         go_ret2
         exact ⟨C.out _ (by rw [Q.out, R.out]; exact (cdv_dvd V.out).symm), rfl⟩)
  have t7 : (a.tmod b == 0) = false := beq_eq_false_iff_ne.2 hr
  have t8 : (a.tmod b != 0) = true := bne_iff_ne.2 hr
  by_cases hs : decide (a < 0) = decide (b < 0)
  · have R := hid (fdiv_eqsign H0.out hs)
    have V := hid hr
    clear hr
    have t9 : (decide (a < 0) == decide (b < 0)) = true := beq_iff_eq.2 hs
    have t10 : (!decide (a < 0) == decide (b < 0)) = false := by rw [hs]; cases decide (b < 0) <;> rfl
    have t11 : (decide (a < 0) != decide (b < 0)) = false := by rw [bne, t9]; rfl
    clear hs
    cases s1 <;> cases s2 <;> first
      | exact absurd u5 (by decide)
      | (clear u5
         go_enter Try.func46, Try.ntmps46
         go_wp2
         go_ret2
         exact ⟨C.out _ (by have := F.out; rw [Q.out, R.out, ← cdv_ndvd H0.out V.out, wrap64_id _ this]), rfl⟩)
  · have R := hid (fdiv_nesign H0.out hr hs)
    have V := hid hr
    clear hr
    have t9 : (decide (a < 0) == decide (b < 0)) = false := beq_eq_false_iff_ne.2 hs
    have t10 : (!decide (a < 0) == decide (b < 0)) = true := by revert hs; cases decide (a < 0) <;> cases decide (b < 0) <;> simp
    have t11 : (decide (a < 0) != decide (b < 0)) = true := bne_iff_ne.2 hs
    clear hs
    cases s1 <;> cases s2 <;> first
      | exact absurd u5 (by decide)
      | (clear u5
         go_enter Try.func46, Try.ntmps46
         go_wp2
         go_ret2
         exact ⟨C.out _ (by rw [Q.out, cdv_ndvd H0.out V.out, ← R.out]; omega), rfl⟩)

theorem fmod_any (a b : Int) (ha : I64 a) (hb : I64 b) (w : World) :
    Calls Try.prog 26 #[.int .i64 a, .int .i64 b] w fun e w' => e = .returned (.tuple #[.int .i64 (orZ (nz b) (a.fmod b)), .bool (nz b)]) ∧ w = w' := by
  obtain ⟨a1, a2⟩ := ha; obtain ⟨b1, b2⟩ := hb
  by_cases h0 : b = 0
  · have z : nz b = false := dF (fun h => h h0)
    have t1 : (b == 0) = true := beq_iff_eq.2 h0
    have H := hid z; clear z h0
    go_enter Try.func26, Try.ntmps26
    go_wp2
    go_ret2
    exact ⟨by rw [H.out]; rfl, rfl⟩
  have z : nz b = true := dT h0
  have t1 : (b == 0) = false := beq_eq_false_iff_ne.2 h0
  have t2 : (b != 0) = true := bne_iff_ne.2 h0
  have hf := fmod_in a b ⟨b1, b2⟩ h0
  have C : ∀ x, x = a.fmod b → Ending.returned (.tuple #[.int .i64 x, .bool true]) = .returned (.tuple #[.int .i64 (orZ (nz b) (a.fmod b)), .bool (nz b)]) := fun x e => by rw [z, e]; rfl
  have C := hid C
  have F := hid (wrap64_id _ hf)
  have H0 := hid h0
  clear hf z h0
  by_cases hm : b = -1
  · have t3 : (b == -1) = true := beq_iff_eq.2 hm
    have M : Hid ((0 : Int) = a.fmod b) := by rw [hm]; exact (Int.fmod_eq_zero_of_dvd (Int.neg_dvd.2 (Int.one_dvd a))).symm
    clear hm
    go_enter Try.func26, Try.ntmps26
    go_wp2
    go_ret2
    exact ⟨C.out _ M.out, rfl⟩
  have t3 : (b == -1) = false := beq_eq_false_iff_ne.2 hm
  clear hm
  by_cases hr : a.tmod b = 0
  · have R := hid (fmod_same hr)
    have t7 : (a.tmod b == 0) = true := beq_iff_eq.2 hr
    have t8 : (a.tmod b != 0) = false := by rw [bne, t7]; rfl
    clear hr
    go_enter Try.func26, Try.ntmps26
    go_wp2
    go_ret2
    exact ⟨C.out _ R.out, rfl⟩
  have t7 : (a.tmod b == 0) = false := beq_eq_false_iff_ne.2 hr
  have t8 : (a.tmod b != 0) = true := bne_iff_ne.2 hr
  by_cases hs : decide (a.tmod b < 0) = decide (b < 0)
  · have R := hid (fmod_eqsign H0.out hr hs)
    clear hr
    have t9 : (decide (a.tmod b < 0) == decide (b < 0)) = true := beq_iff_eq.2 hs
    have t10 : (!decide (a.tmod b < 0) == decide (b < 0)) = false := by rw [hs]; cases decide (b < 0) <;> rfl
    clear hs
    go_enter Try.func26, Try.ntmps26
    go_wp2
    go_ret2
    exact ⟨C.out _ R.out, rfl⟩
  · have R := hid (fmod_nesign H0.out hr hs)
    clear hr
    have t9 : (decide (a.tmod b < 0) == decide (b < 0)) = false := beq_eq_false_iff_ne.2 hs
    have t10 : (!decide (a.tmod b < 0) == decide (b < 0)) = true := by revert hs; cases decide (a.tmod b < 0) <;> cases decide (b < 0) <;> simp
    clear hs
    go_enter Try.func26, Try.ntmps26
    go_wp2
    go_ret2
    exact ⟨C.out _ (by rw [R.out, F.out]), rfl⟩

theorem rfmod_any (a b : Int) (ha : I64 a) (hb : I64 b) (w : World) :
    Calls Try.prog 47 #[.int .i64 a, .int .i64 b] w fun e w' => e = .returned (.tuple #[.int .i64 (orZ (nz b) (a.fmod b)), .bool (nz b)]) ∧ w = w' := by
  obtain ⟨a1, a2⟩ := ha; obtain ⟨b1, b2⟩ := hb
  by_cases h0 : b = 0
  · have z : nz b = false := dF (fun h => h h0)
    have t1 : (b == 0) = true := beq_iff_eq.2 h0
    have H := hid z; clear z h0
    go_enter Try.func47, Try.ntmps47
    go_wp2
    go_ret2
    exact ⟨by rw [H.out]; rfl, rfl⟩
  have z : nz b = true := dT h0
  have t1 : (b == 0) = false := beq_eq_false_iff_ne.2 h0
  have t2 : (b != 0) = true := bne_iff_ne.2 h0
  have hf := fmod_in a b ⟨b1, b2⟩ h0
  have C : ∀ x, x = a.fmod b → Ending.returned (.tuple #[.int .i64 x, .bool true]) = .returned (.tuple #[.int .i64 (orZ (nz b) (a.fmod b)), .bool (nz b)]) := fun x e => by rw [z, e]; rfl
  have C := hid C
  have F := hid (wrap64_id _ hf)
  have H0 := hid h0
  clear hf z h0
  by_cases hm : b = -1
  · have t3 : (b == -1) = true := beq_iff_eq.2 hm
    have M : Hid ((0 : Int) = a.fmod b) := by rw [hm]; exact (Int.fmod_eq_zero_of_dvd (Int.neg_dvd.2 (Int.one_dvd a))).symm
    clear hm
    go_enter Try.func47, Try.ntmps47
    go_wp2
    go_ret2
    exact ⟨C.out _ M.out, rfl⟩
  have t3 : (b == -1) = false := beq_eq_false_iff_ne.2 hm
  clear hm
  by_cases hr : a.tmod b = 0
  · have R := hid (fmod_same hr)
    have t7 : (a.tmod b == 0) = true := beq_iff_eq.2 hr
    have t8 : (a.tmod b != 0) = false := by rw [bne, t7]; rfl
    clear hr
    go_enter Try.func47, Try.ntmps47
    go_wp2
    go_ret2
    exact ⟨C.out _ R.out, rfl⟩
  have t7 : (a.tmod b == 0) = false := beq_eq_false_iff_ne.2 hr
  have t8 : (a.tmod b != 0) = true := bne_iff_ne.2 hr
  by_cases hs : decide (a.tmod b < 0) = decide (b < 0)
  · have R := hid (fmod_eqsign H0.out hr hs)
    clear hr
    have t9 : (decide (a.tmod b < 0) == decide (b < 0)) = true := beq_iff_eq.2 hs
    have t10 : (!decide (a.tmod b < 0) == decide (b < 0)) = false := by rw [hs]; cases decide (b < 0) <;> rfl
    clear hs
    go_enter Try.func47, Try.ntmps47
    go_wp2
    go_ret2
    exact ⟨C.out _ R.out, rfl⟩
  · have R := hid (fmod_nesign H0.out hr hs)
    clear hr
    have t9 : (decide (a.tmod b < 0) == decide (b < 0)) = false := beq_eq_false_iff_ne.2 hs
    have t10 : (!decide (a.tmod b < 0) == decide (b < 0)) = true := by revert hs; cases decide (a.tmod b < 0) <;> cases decide (b < 0) <;> simp
    clear hs
    go_enter Try.func47, Try.ntmps47
    go_wp2
    go_ret2
    exact ⟨C.out _ (by rw [R.out, F.out]), rfl⟩

theorem mag_any (a : Int) (ha : I64 a) (w : World) :
    Calls Try.prog 74 #[.int .i64 a] w fun e w' => e = .returned (.int .u64 (mag a)) ∧ w = w' := by
  by_cases h : a < 0
  · go_enter Try.func74, Try.ntmps74
    go_wp2
    go_ret
    exact ⟨ret_i (mag_neg a ha h), rfl⟩
  · go_enter Try.func74, Try.ntmps74
    go_wp2
    go_ret
    exact ⟨ret_i (mag_pos a ha (by omega)), rfl⟩

theorem abs_any (a : Int) (ha : I64 a) (w : World) :
    Calls Try.prog 75 #[.int .i64 a] w fun e w' => e = .returned (.int .u64 (mag a)) ∧ w = w' := by
  by_cases h : a < 0
  · go_enter Try.func75, Try.ntmps75
    go_wp2
    go_ret
    exact ⟨ret_i (mag_neg a ha h), rfl⟩
  · go_enter Try.func75, Try.ntmps75
    go_wp2
    go_ret
    exact ⟨ret_i (mag_pos a ha (by omega)), rfl⟩

theorem mul64_any (x y : Int) (hx : U64 x) (hy : U64 y) (w : World) :
    Calls Try.prog 73 #[.int .u64 x, .int .u64 y] w fun e w' => e = .returned (.tuple #[.int .u64 (hi64 x y), .int .u64 (lo64 x y)]) ∧ w = w' := by
  obtain ⟨x1, x2⟩ := hx; obtain ⟨y1, y2⟩ := hy
  obtain ⟨n, rfl⟩ := Int.eq_ofNat_of_zero_le x1
  obtain ⟨m, rfl⟩ := Int.eq_ofNat_of_zero_le y1
  refine (Try.bits_Mul64 n m (by omega) (by omega) w).mono ?_
  rintro e w' ⟨rfl, rfl⟩
  exact ⟨by rw [hilo_nat n m, lo_nat n m], rfl⟩

theorem mul_any (a b : Int) (ha : I64 a) (hb : I64 b) (w : World) :
    Calls Try.prog 59 #[.int .i64 a, .int .i64 b] w fun e w' => e = .returned (.tuple #[.int .i64 (orZ (rng (a * b)) (a * b)), .bool (rng (a * b))]) ∧ w = w' := by
  have hm1 := mag_in a ha
  have hm2 := mag_in b hb
  have LI := lo64_in (mag a) (mag b)
  obtain ⟨l1, l2⟩ := LI
  by_cases h0 : hi64 (mag a) (mag b) = 0
  · have t1 : (hi64 (mag a) (mag b) != 0) = false := by rw [h0]; rfl
    by_cases h1 : 9223372036854775808 < lo64 (mag a) (mag b)
    · have V := hid (mul_lo_no a b h0 h1)
      clear h0
      go_enter Try.func59, Try.ntmps59
      go_wp2_with (first | (go_at_call 74; first | (with_reducible refine (mag_any a ha _).mono ?_; rintro e w' ⟨rfl, rfl⟩) | (with_reducible refine (mag_any b hb _).mono ?_; rintro e w' ⟨rfl, rfl⟩)) | (go_at_call 73; refine (mul64_any _ _ hm1 hm2 _).mono ?_; rintro e w' ⟨rfl, rfl⟩))
      go_ret2
      exact ⟨no_ib rfl rfl V.out, rfl⟩
    have h1' : lo64 (mag a) (mag b) ≤ 9223372036854775808 := by omega
    have t2 : decide (9223372036854775808 < lo64 (mag a) (mag b)) = false := dF h1
    by_cases hs : decide (a < 0) = decide (b < 0)
    · have t9 : (decide (a < 0) == decide (b < 0)) = true := beq_iff_eq.2 hs
      have t10 : (!decide (a < 0) == decide (b < 0)) = false := by rw [hs]; cases decide (b < 0) <;> rfl
      have t11 : (decide (a < 0) != decide (b < 0)) = false := by rw [bne, t9]; rfl
      by_cases h2 : lo64 (mag a) (mag b) = 9223372036854775808
      · have V := hid (mul_top_no a b h0 (by omega) hs)
        have t3 : (lo64 (mag a) (mag b) == 9223372036854775808) = true := beq_iff_eq.2 h2
        clear h0 h2 hs h1 h1'
        go_enter Try.func59, Try.ntmps59
        go_wp2_with (first | (go_at_call 74; first | (with_reducible refine (mag_any a ha _).mono ?_; rintro e w' ⟨rfl, rfl⟩) | (with_reducible refine (mag_any b hb _).mono ?_; rintro e w' ⟨rfl, rfl⟩)) | (go_at_call 73; refine (mul64_any _ _ hm1 hm2 _).mono ?_; rintro e w' ⟨rfl, rfl⟩))
        go_ret2
        exact ⟨no_ib rfl rfl V.out, rfl⟩
      · have V := hid (mul_pos_yes a b h0 (by omega) hs)
        have t3 : (lo64 (mag a) (mag b) == 9223372036854775808) = false := beq_eq_false_iff_ne.2 h2
        clear h0 h2 hs h1 h1'
        go_enter Try.func59, Try.ntmps59
        go_wp2_with (first | (go_at_call 74; first | (with_reducible refine (mag_any a ha _).mono ?_; rintro e w' ⟨rfl, rfl⟩) | (with_reducible refine (mag_any b hb _).mono ?_; rintro e w' ⟨rfl, rfl⟩)) | (go_at_call 73; refine (mul64_any _ _ hm1 hm2 _).mono ?_; rintro e w' ⟨rfl, rfl⟩))
        go_ret2
        exact ⟨yes_ib V.out.2 rfl V.out.1, rfl⟩
    · have t9 : (decide (a < 0) == decide (b < 0)) = false := beq_eq_false_iff_ne.2 hs
      have t10 : (!decide (a < 0) == decide (b < 0)) = true := by revert hs; cases decide (a < 0) <;> cases decide (b < 0) <;> simp
      have t11 : (decide (a < 0) != decide (b < 0)) = true := bne_iff_ne.2 hs
      have V := hid (mul_neg_yes a b h0 h1' hs)
      by_cases h2 : lo64 (mag a) (mag b) = 9223372036854775808
      · have t3 : (lo64 (mag a) (mag b) == 9223372036854775808) = true := beq_iff_eq.2 h2
        clear h0 h2 hs h1 h1'
        go_enter Try.func59, Try.ntmps59
        go_wp2_with (first | (go_at_call 74; first | (with_reducible refine (mag_any a ha _).mono ?_; rintro e w' ⟨rfl, rfl⟩) | (with_reducible refine (mag_any b hb _).mono ?_; rintro e w' ⟨rfl, rfl⟩)) | (go_at_call 73; refine (mul64_any _ _ hm1 hm2 _).mono ?_; rintro e w' ⟨rfl, rfl⟩))
        go_ret2
        exact ⟨yes_ib V.out.2 rfl V.out.1, rfl⟩
      · have t3 : (lo64 (mag a) (mag b) == 9223372036854775808) = false := beq_eq_false_iff_ne.2 h2
        clear h0 h2 hs h1 h1'
        go_enter Try.func59, Try.ntmps59
        go_wp2_with (first | (go_at_call 74; first | (with_reducible refine (mag_any a ha _).mono ?_; rintro e w' ⟨rfl, rfl⟩) | (with_reducible refine (mag_any b hb _).mono ?_; rintro e w' ⟨rfl, rfl⟩)) | (go_at_call 73; refine (mul64_any _ _ hm1 hm2 _).mono ?_; rintro e w' ⟨rfl, rfl⟩))
        go_ret2
        exact ⟨yes_ib V.out.2 rfl V.out.1, rfl⟩
  · have V := hid (mul_hi_no a b ha hb h0)
    have t1 : (hi64 (mag a) (mag b) != 0) = true := bne_iff_ne.2 h0
    clear h0
    go_enter Try.func59, Try.ntmps59
    go_wp2_with (first | (go_at_call 74; first | (with_reducible refine (mag_any a ha _).mono ?_; rintro e w' ⟨rfl, rfl⟩) | (with_reducible refine (mag_any b hb _).mono ?_; rintro e w' ⟨rfl, rfl⟩)) | (go_at_call 73; refine (mul64_any _ _ hm1 hm2 _).mono ?_; rintro e w' ⟨rfl, rfl⟩))
    go_ret2
    exact ⟨no_ib rfl rfl V.out, rfl⟩

theorem signed_any (p : Bool) (m : Int) (hm : U64 m) (w : World) :
    Calls Try.prog 76 #[.bool p, .int .u64 m] w fun e w' => e = .returned (.tuple #[.int .i64 (sgV p m), .bool (sgB p m)]) ∧ w = w' := by
  obtain ⟨m1, m2⟩ := hm
  cases p
  · by_cases h : 9223372036854775807 < m
    · go_enter Try.func76, Try.ntmps76
      go_wp2
      go_ret2
      exact ⟨sg_pos_no h, rfl⟩
    · have h' : m ≤ 9223372036854775807 := by omega
      have e : wrap64 m = m := wrap64_id _ ⟨by omega, by omega⟩
      have E := hid e
      clear e
      go_enter Try.func76, Try.ntmps76
      go_wp2
      go_ret2
      exact ⟨sg_pos_yes h' (by first | rfl | rw [E.out]), rfl⟩
  · by_cases h : 9223372036854775808 < m
    · go_enter Try.func76, Try.ntmps76
      go_wp2
      go_ret2
      exact ⟨sg_neg_no h, rfl⟩
    · have h' : m ≤ 9223372036854775808 := by omega
      have E := hid (wrap_neg_lo m m1 h')
      go_enter Try.func76, Try.ntmps76
      go_wp2
      go_ret2
      exact ⟨sg_neg_yes h' (by rw [E.out]), rfl⟩

theorem rmul_any (a b : Int) (ha : I64 a) (hb : I64 b) (w : World) :
    Calls Try.prog 60 #[.int .i64 a, .int .i64 b] w fun e w' => e = .returned (.tuple #[.int .i64 (orZ (rng (a * b)) (a * b)), .bool (rng (a * b))]) ∧ w = w' := by
  have hm1 := mag_in a ha
  have hm2 := mag_in b hb
  have LI := lo64_in (mag a) (mag b)
  by_cases h0 : hi64 (mag a) (mag b) = 0
  · have t1 : (hi64 (mag a) (mag b) != 0) = false := by rw [h0]; rfl
    by_cases hs : decide (a < 0) = decide (b < 0)
    · have t11 : (decide (a < 0) != decide (b < 0)) = false := by rw [hs, bne, beq_self_eq_true]; rfl
      have t10 : (!decide (a < 0) == decide (b < 0)) = false := by rw [hs]; cases decide (b < 0) <;> rfl
      have V := hid (sg_mul_pos a b h0 hs)
      clear h0 hs
      go_enter Try.func60, Try.ntmps60
      go_wp2_with (first | (go_at_call 75; first | (with_reducible refine (abs_any a ha _).mono ?_; rintro e w' ⟨rfl, rfl⟩) | (with_reducible refine (abs_any b hb _).mono ?_; rintro e w' ⟨rfl, rfl⟩)) | (go_at_call 73; refine (mul64_any _ _ hm1 hm2 _).mono ?_; rintro e w' ⟨rfl, rfl⟩) | (go_at_call 76; refine (signed_any _ _ LI _).mono ?_; rintro e w' ⟨rfl, rfl⟩))
      go_ret2
      exact ⟨V.out, rfl⟩
    · have t11 : (decide (a < 0) != decide (b < 0)) = true := bne_iff_ne.2 hs
      have t10 : (!decide (a < 0) == decide (b < 0)) = true := by revert hs; cases decide (a < 0) <;> cases decide (b < 0) <;> simp
      by_cases hz : lo64 (mag a) (mag b) = 0
      · have t4 : (lo64 (mag a) (mag b) != 0) = false := by rw [hz]; rfl
        have V := hid (sg_mul_zero a b h0 hz)
        clear h0 hs hz
        go_enter Try.func60, Try.ntmps60
        go_wp2_with (first | (go_at_call 75; first | (with_reducible refine (abs_any a ha _).mono ?_; rintro e w' ⟨rfl, rfl⟩) | (with_reducible refine (abs_any b hb _).mono ?_; rintro e w' ⟨rfl, rfl⟩)) | (go_at_call 73; refine (mul64_any _ _ hm1 hm2 _).mono ?_; rintro e w' ⟨rfl, rfl⟩) | (go_at_call 76; refine (signed_any _ _ LI _).mono ?_; rintro e w' ⟨rfl, rfl⟩))
        go_ret2
        exact ⟨V.out, rfl⟩
      · have t4 : (lo64 (mag a) (mag b) != 0) = true := bne_iff_ne.2 hz
        have V := hid (sg_mul_neg a b h0 hs)
        clear h0 hs hz
        go_enter Try.func60, Try.ntmps60
        go_wp2_with (first | (go_at_call 75; first | (with_reducible refine (abs_any a ha _).mono ?_; rintro e w' ⟨rfl, rfl⟩) | (with_reducible refine (abs_any b hb _).mono ?_; rintro e w' ⟨rfl, rfl⟩)) | (go_at_call 73; refine (mul64_any _ _ hm1 hm2 _).mono ?_; rintro e w' ⟨rfl, rfl⟩) | (go_at_call 76; refine (signed_any _ _ LI _).mono ?_; rintro e w' ⟨rfl, rfl⟩))
        go_ret2
        exact ⟨V.out, rfl⟩
  · have V := hid (mul_hi_no a b ha hb h0)
    have t1 : (hi64 (mag a) (mag b) != 0) = true := bne_iff_ne.2 h0
    clear h0
    go_enter Try.func60, Try.ntmps60
    go_wp2_with (first | (go_at_call 75; first | (with_reducible refine (abs_any a ha _).mono ?_; rintro e w' ⟨rfl, rfl⟩) | (with_reducible refine (abs_any b hb _).mono ?_; rintro e w' ⟨rfl, rfl⟩)) | (go_at_call 73; refine (mul64_any _ _ hm1 hm2 _).mono ?_; rintro e w' ⟨rfl, rfl⟩) | (go_at_call 76; refine (signed_any _ _ LI _).mono ?_; rintro e w' ⟨rfl, rfl⟩))
    go_ret2
    exact ⟨no_ib rfl rfl V.out, rfl⟩

theorem rmid_any (a b : Int) (ha : I64 a) (hb : I64 b) (w : World) :
    Calls Try.prog 36 #[.int .i64 a, .int .i64 b] w fun e w' => e = .returned (.int .i64 ((a + b) / 2)) ∧ w = w' := by
  by_cases h : b < a
  · have hd := dst_in b a hb ha
    obtain ⟨d1, d2⟩ := hd
    have hu : U64 (dst b a / 2) := ⟨by omega, by omega⟩
    have V := hid (mid_of_dst b a hb ha (by omega))
    go_enter Try.func36, Try.ntmps36
    go_wp2_with (first | (go_at_call 37; refine (rdist_any b a hb ha _).mono ?_; rintro e w' ⟨rfl, rfl⟩) | (go_at_call 22; refine (rapply_any b (dst b a / 2) hu _).mono ?_; rintro e w' ⟨rfl, rfl⟩))
    go_ret
    exact ⟨ret_i (by rw [V.out, Int.add_comm]), rfl⟩
  · have hd := dst_in a b ha hb
    obtain ⟨d1, d2⟩ := hd
    have hu : U64 (dst a b / 2) := ⟨by omega, by omega⟩
    have V := hid (mid_of_dst a b ha hb (by omega))
    go_enter Try.func36, Try.ntmps36
    go_wp2_with (first | (go_at_call 37; refine (rdist_any a b ha hb _).mono ?_; rintro e w' ⟨rfl, rfl⟩) | (go_at_call 22; refine (rapply_any a (dst a b / 2) hu _).mono ?_; rintro e w' ⟨rfl, rfl⟩))
    go_ret
    exact ⟨ret_i V.out, rfl⟩

theorem known01_any (w : World) :
    Calls Try.prog 15 #[] w fun e w' => e = .returned (.bool true) ∧ w = w' := by
  have t : (wrap64 (bits BinOp.and IntKind.i64 (-3) 0 + bits BinOp.xor IntKind.i64 (-3) 0 / 2) == -2) = true := by
    rw [mid_bits (-3) 0 ⟨by decide, by decide⟩ ⟨by decide, by decide⟩]; decide
  go_enter Try.func15, Try.ntmps15
  go_wp2
  go_ret
  exact ⟨ret_b rfl, rfl⟩

end Go.Proofs.Ytenaeaojnebokaa.Chk
