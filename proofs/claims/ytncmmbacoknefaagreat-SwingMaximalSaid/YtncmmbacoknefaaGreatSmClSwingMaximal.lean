/- MADE BY PROGRAM (sxgen.py): the small code of some functions, points of it and their equations. -/
import Derived.Test.YtncmmbacoknefaaGreatProg
import Derived.Test.YtncmmbacoknefaaGreatSm2
import Derived.Test.YtncmmbacoknefaaGreatSm7
namespace Go.Proofs.YtncmmbacoknefaaGreat
open Go Go.RowKit Sx
set_option linter.unusedVariables false
variable (C : Cx) (R L1 L2 L3 L4 : St → Prop)

/-! ### tscodec/tscodeclaw14.SwingMaximal -/
namespace w14_SwingMaximal
def r0 : List G := [(some 2, none, (.mv (.const (.bool false))))]
def r1 : List G := [(some 16, none, (.mv (.tmp 0))), (some 17, none, (.call false 15 [(.tmp 16)])), (some 3, none, (.mv (.tmp 17)))]
def r2 : List G := [(some 18, none, (.mv (.tmp 3))), (some 19, none, (.call false 16 [(.tmp 18), (.const (.int .i64 30))])), (some 20, none, (.mv (.tmp 3))), (some 21, none, (.call false 17 [(.tmp 20)])), (some 4, none, (.mv (.tmp 19))), (some 5, none, (.mv (.tmp 21)))]
def r3 : List G := [(some 23, none, (.mv (.tmp 4))), (some 24, none, (.mv (.tmp 5))), (some 25, none, (.call false 46 [(.tmp 23), (.tmp 24)])), (some 22, none, (.mv (.tmp 25))), (some 26, none, (.ex (.tmp 22) 0)), (some 27, none, (.ex (.tmp 22) 1)), (some 6, none, (.mv (.tmp 26))), (some 7, none, (.mv (.tmp 27)))]
def r4 : List G := [(some 8, none, (.mv (.const (.int .i64 0))))]
def r5 : List G := [(some 9, none, (.mv (.const (.int .i64 0))))]
def r6 : List G := [(some 28, none, (.mv (.tmp 9))), (some 29, none, (.bin .add (.tmp 28) (.const (.int .i64 1)))), (some 30, none, (.mv (.tmp 6))), (some 31, none, (.len false (.tmp 30))), (some 32, none, (.bin .lss (.tmp 29) (.tmp 31)))]
def r8 : List G := [(some 35, none, (.mv (.tmp 6))), (some 36, none, (.mv (.tmp 9))), (some 37, none, (.is 12 (.tmp 35) (.tmp 36))), (some 38, none, (.fa 0 (.tmp 37))), (some 39, none, (.ld false 1 (.tmp 38))), (some 10, none, (.mv (.tmp 39)))]
def r9 : List G := [(some 40, none, (.mv (.tmp 10))), (some 41, none, (.bin .lss (.tmp 40) (.const (.int .i64 1)))), (some 42, none, (.mv (.tmp 41))), (some 43, some (42, false), (.mv (.tmp 10))), (some 44, some (42, false), (.mv (.tmp 4))), (some 45, some (42, false), (.len false (.tmp 44))), (some 46, some (42, false), (.mv (.tmp 8))), (some 47, some (42, false), (.bin .sub (.tmp 45) (.tmp 46))), (some 48, some (42, false), (.bin .geq (.tmp 43) (.tmp 47))), (some 49, none, (.pick (.tmp 42) (.const (.bool true)) (.tmp 48)))]
def r10 : List G := [(some 2, none, (.mv (.const (.bool false))))]
def r11 : List G := [(some 50, none, (.call false 55 [])), (some 11, none, (.new [(.bool false), (.bool false), (.int .u64 0), (.int .u64 0), (.int .u64 0), (.int .u64 0), (.bool false), (.int .u64 0), (.int .u64 0), (.int .u64 0), (.int .u64 0), (.bool false), (.int .u64 0), (.int .u64 0), (.int .u64 0), (.int .u64 0), (.bool false), (.int .u64 0), (.int .u64 0), (.int .u64 0), (.int .u64 0)])), (none, none, (.st true 21 (.tmp 11) (.tmp 50))), (some 12, none, (.mv (.const (.bool true))))]
def r12 : List G := [(some 13, none, (.mv (.const (.int .i64 1))))]
def r13 : List G := [(some 51, none, (.mv (.tmp 13))), (some 52, none, (.mv (.tmp 10))), (some 53, none, (.bin .leq (.tmp 51) (.tmp 52))), (some 54, none, (.mv (.tmp 53))), (some 55, some (54, true), (.mv (.tmp 12))), (some 56, none, (.pick (.tmp 54) (.tmp 55) (.const (.bool false))))]
def r15 : List G := [(some 60, none, (.mv (.tmp 4))), (some 61, none, (.mv (.tmp 8))), (some 62, none, (.is 2 (.tmp 60) (.tmp 61))), (some 63, none, (.fa 1 (.tmp 62))), (some 64, none, (.ld false 1 (.tmp 63))), (some 65, none, (.call true 50 [(.tmp 64)])), (some 66, none, (.mv (.tmp 4))), (some 67, none, (.mv (.tmp 8))), (some 68, none, (.mv (.tmp 13))), (some 69, none, (.bin .add (.tmp 67) (.tmp 68))), (some 70, none, (.is 2 (.tmp 66) (.tmp 69))), (some 71, none, (.fa 1 (.tmp 70))), (some 72, none, (.ld false 1 (.tmp 71))), (some 73, none, (.mv (.tmp 5))), (some 74, none, (.mv (.tmp 4))), (some 75, none, (.mv (.tmp 8))), (some 76, none, (.mv (.tmp 13))), (some 77, none, (.bin .add (.tmp 75) (.tmp 76))), (some 78, none, (.is 2 (.tmp 74) (.tmp 77))), (some 79, none, (.fa 0 (.tmp 78))), (some 80, none, (.ld false 1 (.tmp 79))), (some 81, none, (.mv (.tmp 4))), (some 82, none, (.mv (.tmp 8))), (some 83, none, (.is 2 (.tmp 81) (.tmp 82))), (some 84, none, (.fa 0 (.tmp 83))), (some 85, none, (.ld false 1 (.tmp 84))), (some 86, none, (.call true 42 [(.tmp 80), (.tmp 85)])), (some 87, none, (.call true 40 [(.tmp 65), (.tmp 72), (.tmp 73), (.tmp 86)])), (some 59, none, (.mv (.tmp 87))), (some 88, none, (.ex (.tmp 59) 0)), (some 89, none, (.ex (.tmp 59) 1))]
def t15 : List G := [(some 14, none, (.new [(.bool false), (.bool false), (.int .u64 0), (.int .u64 0), (.int .u64 0), (.int .u64 0), (.bool false), (.int .u64 0), (.int .u64 0), (.int .u64 0), (.int .u64 0), (.bool false), (.int .u64 0), (.int .u64 0), (.int .u64 0), (.int .u64 0), (.bool false), (.int .u64 0), (.int .u64 0), (.int .u64 0), (.int .u64 0)])), (none, none, (.st true 21 (.tmp 14) (.tmp 88))), (some 15, none, (.mv (.tmp 89)))]
def r16 : List G := [(some 91, none, (.ld true 21 (.tmp 11))), (some 92, none, (.ld true 21 (.tmp 14))), (some 93, none, (.call false 45 [(.tmp 91), (.tmp 92)])), (some 90, none, (.mv (.tmp 93))), (some 94, none, (.ex (.tmp 90) 0)), (some 95, none, (.ex (.tmp 90) 1)), (none, none, (.st true 21 (.tmp 11) (.tmp 94))), (some 12, none, (.mv (.tmp 95)))]
def r17 : List G := [(some 96, none, (.mv (.tmp 12))), (some 97, none, (.mv (.tmp 13))), (some 98, none, (.mv (.tmp 10))), (some 99, none, (.bin .lss (.tmp 97) (.tmp 98))), (some 100, none, (.bq true (.tmp 96) (.tmp 99)))]
def r18 : List G := [(some 2, none, (.mv (.const (.bool false))))]
def r14 : List G := [(some 57, none, (.mv (.tmp 13))), (some 58, none, (.bin .add (.tmp 57) (.const (.int .i64 1)))), (some 13, none, (.mv (.tmp 58)))]
def r19 : List G := [(some 101, none, (.mv (.tmp 8))), (some 102, none, (.mv (.tmp 10))), (some 103, none, (.bin .add (.tmp 101) (.tmp 102))), (some 8, none, (.mv (.tmp 103)))]
def r7 : List G := [(some 33, none, (.mv (.tmp 9))), (some 34, none, (.bin .add (.tmp 33) (.const (.int .i64 1)))), (some 9, none, (.mv (.tmp 34)))]
def r20 : List G := [(some 104, none, (.call false 47 [])), (some 105, none, (.mv (.tmp 104))), (some 106, some (105, true), (.mv (.tmp 7))), (some 107, some (105, true), (.bin .eql (.tmp 106) (.const (.int .i64 0)))), (some 108, none, (.pick (.tmp 105) (.tmp 107) (.const (.bool false)))), (some 2, none, (.mv (.tmp 108)))]
def c : MC := (.seq (.reg r0 (some [0])) (.seq (.reg r1 (some [3])) (.seq (.reg r2 (some [4, 5])) (.seq (.reg r3 (some [4, 5, 6, 7])) (.seq (.reg r4 (some [4, 5, 6, 7, 8])) (.seq (.seq (.reg r5 (some [4, 5, 6, 7, 8, 9])) (.block 0 (.loop (.seq (.seq (.reg r6 (some [4, 5, 6, 7, 8, 9, 32])) (.cond (.tmp 32) .skip (.exit 0))) (.seq (.block 1 (.seq (.reg r8 (some [4, 5, 6, 7, 8, 9, 10])) (.seq (.seq (.reg r9 (some [4, 5, 6, 7, 8, 9, 10, 49])) (.cond (.tmp 49) (.seq (.reg r10 (some [2])) .ret) .skip)) (.seq (.reg r11 (some [4, 5, 6, 7, 8, 9, 10, 11, 12])) (.seq (.seq (.reg r12 (some [4, 5, 6, 7, 8, 9, 10, 11, 12, 13])) (.block 2 (.loop (.seq (.seq (.reg r13 (some [4, 5, 6, 7, 8, 9, 10, 11, 13, 56])) (.cond (.tmp 56) .skip (.exit 2))) (.seq (.block 3 (.seq (.dreg r15 t15 (some [4, 5, 6, 7, 8, 9, 10, 11, 13, 14])) (.seq (.reg r16 (some [4, 5, 6, 7, 8, 9, 10, 11, 12, 13])) (.seq (.reg r17 (some [4, 5, 6, 7, 8, 9, 10, 11, 12, 13, 100])) (.cond (.tmp 100) (.seq (.reg r18 (some [2])) .ret) .skip))))) (.reg r14 (some [4, 5, 6, 7, 8, 9, 10, 11, 12, 13]))))))) (.reg r19 (some [4, 5, 6, 7, 8, 9]))))))) (.reg r7 (some [4, 5, 6, 7, 8, 9]))))))) (.seq (.reg r20 (some [2])) .ret)))))))
def ann : Ann := [(0, (some [0], 0, [], [], [])), (1, (some [3], 0, [], [], [])), (2, (some [4, 5], 0, [], [], [])), (3, (some [4, 5, 6, 7], 0, [], [], [])), (4, (some [4, 5, 6, 7, 8], 0, [], [], [])), (5, (some [4, 5, 6, 7, 8, 9], 0, [], [], [])), (6, (some [4, 5, 6, 7, 8, 9, 32], 0, [], [], [])), (7, (some [4, 5, 6, 7, 8, 9], 0, [], [], [])), (8, (some [4, 5, 6, 7, 8, 9, 10], 0, [], [], [])), (9, (some [4, 5, 6, 7, 8, 9, 10, 49], 0, [], [], [])), (10, (some [2], 0, [], [], [])), (11, (some [4, 5, 6, 7, 8, 9, 10, 11, 12], 0, [], [], [])), (12, (some [4, 5, 6, 7, 8, 9, 10, 11, 12, 13], 0, [], [], [])), (13, (some [4, 5, 6, 7, 8, 9, 10, 11, 13, 56], 0, [], [], [])), (14, (some [4, 5, 6, 7, 8, 9, 10, 11, 12, 13], 0, [], [], [])), (15, (some [4, 5, 6, 7, 8, 9, 10, 11, 13, 14], 32, [30], [(0, 0), (1, 0), (2, 0), (3, 0), (4, 0), (5, 0), (6, 0), (7, 0), (8, 0), (9, 0), (10, 0), (11, 0), (12, 0), (13, 0), (14, 0), (15, 0), (16, 0), (17, 0), (18, 0), (19, 0), (20, 0), (21, 0), (22, 0), (23, 0), (24, 0), (25, 0), (26, 0), (27, 0), (28, 0), (29, 0), (30, 2)], [31])), (16, (some [4, 5, 6, 7, 8, 9, 10, 11, 12, 13], 0, [], [], [])), (17, (some [4, 5, 6, 7, 8, 9, 10, 11, 12, 13, 100], 0, [], [], [])), (18, (some [2], 0, [], [], [])), (19, (some [4, 5, 6, 7, 8, 9], 0, [], [], [])), (20, (some [2], 0, [], [], []))]
theorem ok : compF Tryz.prog Tryz.f11 ann = some (109, c, [(2, none)]) := by kernel_rfl
def p1 (S : St) : Prop := ops C r20 (kq [2] R) S
def p3 (S : St) : Prop := ops C r7 (kq [4, 5, 6, 7, 8, 9] L1) S
def p4 (S : St) : Prop := ops C r19 (kq [4, 5, 6, 7, 8, 9] (p3 C L1)) S
def p6 (S : St) : Prop := ops C r14 (kq [4, 5, 6, 7, 8, 9, 10, 11, 12, 13] L2) S
def p8 (S : St) : Prop := ops C r18 (kq [2] R) S
def p7 (S : St) : Prop := condX (S.ev (.tmp 100)) (p8 C R) (p6 C L2) S
def p9 (S : St) : Prop := ops C r17 (kq [4, 5, 6, 7, 8, 9, 10, 11, 12, 13, 100] (p7 C R L2)) S
def p10 (S : St) : Prop := ops C r16 (kq [4, 5, 6, 7, 8, 9, 10, 11, 12, 13] (p9 C R L2)) S
def p11 (S : St) : Prop := ops C r15 (ops C t15 (kq [4, 5, 6, 7, 8, 9, 10, 11, 13, 14] (p10 C R L2))) S
def p12 (S : St) : Prop := condX (S.ev (.tmp 56)) (p11 C R L2) (p4 C L1) S
def p13 (S : St) : Prop := ops C r13 (kq [4, 5, 6, 7, 8, 9, 10, 11, 13, 56] (p12 C R L1 L2)) S
def p5 (S : St) : Prop := LX C (fun L2 => (p13 C R L1 L2)) S
theorem p5_l (S : St) : p5 C R L1 S = LX C (fun L2 => (p13 C R L1 L2)) S := rfl
def p14 (S : St) : Prop := ops C r12 (kq [4, 5, 6, 7, 8, 9, 10, 11, 12, 13] (p5 C R L1)) S
def p15 (S : St) : Prop := ops C r11 (kq [4, 5, 6, 7, 8, 9, 10, 11, 12] (p14 C R L1)) S
def p17 (S : St) : Prop := ops C r10 (kq [2] R) S
def p16 (S : St) : Prop := condX (S.ev (.tmp 49)) (p17 C R) (p15 C R L1) S
def p18 (S : St) : Prop := ops C r9 (kq [4, 5, 6, 7, 8, 9, 10, 49] (p16 C R L1)) S
def p19 (S : St) : Prop := ops C r8 (kq [4, 5, 6, 7, 8, 9, 10] (p18 C R L1)) S
def p20 (S : St) : Prop := condX (S.ev (.tmp 32)) (p19 C R L1) (p1 C R) S
def p21 (S : St) : Prop := ops C r6 (kq [4, 5, 6, 7, 8, 9, 32] (p20 C R L1)) S
def p2 (S : St) : Prop := LX C (fun L1 => (p21 C R L1)) S
theorem p2_l (S : St) : p2 C R S = LX C (fun L1 => (p21 C R L1)) S := rfl
def p22 (S : St) : Prop := ops C r5 (kq [4, 5, 6, 7, 8, 9] (p2 C R)) S
def p23 (S : St) : Prop := ops C r4 (kq [4, 5, 6, 7, 8] (p22 C R)) S
def p24 (S : St) : Prop := ops C r3 (kq [4, 5, 6, 7] (p23 C R)) S
def p25 (S : St) : Prop := ops C r2 (kq [4, 5] (p24 C R)) S
def p26 (S : St) : Prop := ops C r1 (kq [3] (p25 C R)) S
def p27 (S : St) : Prop := ops C r0 (kq [0] (p26 C R)) S
theorem s (S : St) : X C c (retK R) S = p27 C R S := by kernel_rfl
theorem E1 : type_of% @r20.eq_1 ∧ type_of% @p1.eq_1 ∧ type_of% @r7.eq_1 ∧ type_of% @p3.eq_1 ∧ type_of% @r19.eq_1 ∧ type_of% @p4.eq_1 ∧ type_of% @r14.eq_1 ∧ type_of% @p6.eq_1 ∧ type_of% @r18.eq_1 ∧ type_of% @p8.eq_1 ∧ type_of% @p7.eq_1 ∧ type_of% @r17.eq_1 ∧ type_of% @p9.eq_1 ∧ type_of% @r16.eq_1 ∧ type_of% @p10.eq_1 ∧ type_of% @r15.eq_1 ∧ type_of% @t15.eq_1 ∧ type_of% @p11.eq_1 ∧ type_of% @p12.eq_1 ∧ type_of% @r13.eq_1 ∧ type_of% @p13.eq_1 ∧ type_of% @r12.eq_1 ∧ type_of% @p14.eq_1 ∧ type_of% @r11.eq_1 ∧ type_of% @p15.eq_1 ∧ type_of% @r10.eq_1 ∧ type_of% @p17.eq_1 ∧ type_of% @p16.eq_1 ∧ type_of% @r9.eq_1 ∧ type_of% @p18.eq_1 ∧ type_of% @r8.eq_1 ∧ type_of% @p19.eq_1 ∧ type_of% @p20.eq_1 ∧ type_of% @r6.eq_1 ∧ type_of% @p21.eq_1 ∧ type_of% @r5.eq_1 ∧ type_of% @p22.eq_1 ∧ type_of% @r4.eq_1 ∧ type_of% @p23.eq_1 ∧ type_of% @r3.eq_1 := ⟨@r20.eq_1, @p1.eq_1, @r7.eq_1, @p3.eq_1, @r19.eq_1, @p4.eq_1, @r14.eq_1, @p6.eq_1, @r18.eq_1, @p8.eq_1, @p7.eq_1, @r17.eq_1, @p9.eq_1, @r16.eq_1, @p10.eq_1, @r15.eq_1, @t15.eq_1, @p11.eq_1, @p12.eq_1, @r13.eq_1, @p13.eq_1, @r12.eq_1, @p14.eq_1, @r11.eq_1, @p15.eq_1, @r10.eq_1, @p17.eq_1, @p16.eq_1, @r9.eq_1, @p18.eq_1, @r8.eq_1, @p19.eq_1, @p20.eq_1, @r6.eq_1, @p21.eq_1, @r5.eq_1, @p22.eq_1, @r4.eq_1, @p23.eq_1, @r3.eq_1⟩
theorem E2 : type_of% @p24.eq_1 ∧ type_of% @r2.eq_1 ∧ type_of% @p25.eq_1 ∧ type_of% @r1.eq_1 ∧ type_of% @p26.eq_1 ∧ type_of% @r0.eq_1 ∧ type_of% @p27.eq_1 ∧ type_of% @s := ⟨@p24.eq_1, @r2.eq_1, @p25.eq_1, @r1.eq_1, @p26.eq_1, @r0.eq_1, @p27.eq_1, @s⟩
theorem E : type_of% @E1 ∧ type_of% @E2 := ⟨@E1, @E2⟩
end w14_SwingMaximal
end Go.Proofs.YtncmmbacoknefaaGreat
