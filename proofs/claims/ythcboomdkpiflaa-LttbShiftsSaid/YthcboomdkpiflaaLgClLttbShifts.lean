/- MADE BY PROGRAM (sxgen.py): the small code of some functions, points of it and their equations. -/
import Derived.Test.YthcboomdkpiflaaProg
import Derived.Test.YthcboomdkpiflaaLg5
namespace Go.Proofs.Ythcboomdkpiflaa
open Go Go.RowKit Sx
set_option linter.unusedVariables false
variable (C : Cx) (R L1 L2 L3 L4 : St → Prop)

/-! ### tscodec/tscodeclaw25.LttbShifts -/
namespace w25_LttbShifts
def r0 : List G := [(some 6, none, (.mv (.const (.bool false))))]
def r1 : List G := [(some 19, none, (.mv (.tmp 0))), (some 20, none, (.call false 11 [(.tmp 19)])), (some 7, none, (.mv (.tmp 20)))]
def r2 : List G := [(some 8, none, (.mv (.const (.slice none 0 0)))), (some 9, none, (.mv (.const (.slice none 0 0))))]
def r3 : List G := [(some 10, none, (.mv (.const (.int .i64 0))))]
def r4 : List G := [(some 21, none, (.mv (.tmp 7))), (some 22, none, (.call false 14 [(.tmp 21), (.const (.int .i64 30))])), (some 23, none, (.bin .add (.const (.int .i64 3)) (.tmp 22))), (some 11, none, (.mv (.tmp 23)))]
def r5 : List G := [(some 24, none, (.mv (.tmp 11))), (some 25, none, (.bin .gtr (.tmp 24) (.const (.int .i64 0))))]
def r7 : List G := [(some 28, none, (.mv (.tmp 10))), (some 29, none, (.mv (.tmp 7))), (some 30, none, (.call false 14 [(.tmp 29), (.const (.int .i64 20))])), (some 31, none, (.bin .add (.const (.int .i64 1)) (.tmp 30))), (some 32, none, (.bin .add (.tmp 28) (.tmp 31))), (some 10, none, (.mv (.tmp 32)))]
def r8 : List G := [(some 33, none, (.mv (.tmp 10))), (some 34, none, (.mv (.tmp 7))), (some 35, none, (.call false 14 [(.tmp 34), (.const (.int .i64 1000))])), (some 36, none, (.bin .sub (.tmp 35) (.const (.int .i64 500)))), (some 37, none, (.bd [(.int .i64 0), (.int .i64 0)] [(0, 1, (.tmp 33)), (1, 1, (.tmp 36))])), (some 12, none, (.new [(.int .i64 0), (.int .i64 0)])), (none, none, (.st true 2 (.tmp 12) (.tmp 37)))]
def r9 : List G := [(some 38, none, (.mv (.tmp 8))), (some 39, none, (.ld true 2 (.tmp 12))), (some 40, none, (.gen false (.bsl 47 1 [0]) [(.tmp 39)])), (some 41, none, (.gen false (.bi .append [47, 47] 47 [false, false]) [(.tmp 38), (.tmp 40)])), (some 8, none, (.mv (.tmp 41)))]
def r10 : List G := [(some 42, none, (.mv (.tmp 9))), (some 43, none, (.fa 0 (.tmp 12))), (some 44, none, (.ld false 1 (.tmp 43))), (some 45, none, (.mv (.tmp 1))), (some 46, none, (.cv .i64 (.tmp 45))), (some 47, none, (.bin .add (.tmp 44) (.tmp 46))), (some 48, none, (.fa 1 (.tmp 12))), (some 49, none, (.ld false 1 (.tmp 48))), (some 50, none, (.mv (.tmp 2))), (some 51, none, (.cv .i64 (.tmp 50))), (some 52, none, (.bin .add (.tmp 49) (.tmp 51))), (some 53, none, (.bd [(.int .i64 0), (.int .i64 0)] [(0, 1, (.tmp 47)), (1, 1, (.tmp 52))])), (some 54, none, (.gen false (.bsl 47 1 [0]) [(.tmp 53)])), (some 55, none, (.gen false (.bi .append [47, 47] 47 [false, false]) [(.tmp 42), (.tmp 54)])), (some 9, none, (.mv (.tmp 55)))]
def r6 : List G := [(some 26, none, (.mv (.tmp 11))), (some 27, none, (.bin .sub (.tmp 26) (.const (.int .i64 1)))), (some 11, none, (.mv (.tmp 27)))]
def r11 : List G := [(some 56, none, (.mv (.tmp 7))), (some 57, none, (.mv (.tmp 8))), (some 58, none, (.len false (.tmp 57))), (some 59, none, (.bin .sub (.tmp 58) (.const (.int .i64 2)))), (some 60, none, (.call false 14 [(.tmp 56), (.tmp 59)])), (some 61, none, (.bin .add (.const (.int .i64 3)) (.tmp 60))), (some 13, none, (.mv (.tmp 61)))]
def r12 : List G := [(some 63, none, (.mv (.tmp 8))), (some 64, none, (.mv (.tmp 13))), (some 65, none, (.call false 29 [(.tmp 63), (.tmp 64)])), (some 62, none, (.mv (.tmp 65))), (some 66, none, (.ex (.tmp 62) 0)), (some 67, none, (.ex (.tmp 62) 1)), (some 14, none, (.mv (.tmp 66))), (some 15, none, (.mv (.tmp 67)))]
def r13 : List G := [(some 69, none, (.mv (.tmp 9))), (some 70, none, (.mv (.tmp 13))), (some 71, none, (.call false 29 [(.tmp 69), (.tmp 70)])), (some 68, none, (.mv (.tmp 71))), (some 72, none, (.ex (.tmp 68) 0)), (some 73, none, (.ex (.tmp 68) 1)), (some 16, none, (.mv (.tmp 72))), (some 17, none, (.mv (.tmp 73)))]
def r14 : List G := [(some 74, none, (.mv (.tmp 15))), (some 75, none, (.bin .neq (.tmp 74) (.const (.int .i64 0)))), (some 76, none, (.mv (.tmp 75))), (some 77, some (76, false), (.mv (.tmp 17))), (some 78, some (76, false), (.bin .neq (.tmp 77) (.const (.int .i64 0)))), (some 79, none, (.pick (.tmp 76) (.const (.bool true)) (.tmp 78))), (some 80, none, (.mv (.tmp 79))), (some 81, some (80, false), (.mv (.tmp 14))), (some 82, some (80, false), (.len false (.tmp 81))), (some 83, some (80, false), (.mv (.tmp 13))), (some 84, some (80, false), (.bin .neq (.tmp 82) (.tmp 83))), (some 85, none, (.pick (.tmp 80) (.const (.bool true)) (.tmp 84))), (some 86, none, (.mv (.tmp 85))), (some 87, some (86, false), (.mv (.tmp 16))), (some 88, some (86, false), (.len false (.tmp 87))), (some 89, some (86, false), (.mv (.tmp 13))), (some 90, some (86, false), (.bin .neq (.tmp 88) (.tmp 89))), (some 91, none, (.pick (.tmp 86) (.const (.bool true)) (.tmp 90)))]
def r15 : List G := [(some 6, none, (.mv (.const (.bool false))))]
def r16 : List G := [(some 18, none, (.mv (.const (.int .i64 0))))]
def r17 : List G := [(some 92, none, (.mv (.tmp 18))), (some 93, none, (.mv (.tmp 13))), (some 94, none, (.bin .lss (.tmp 92) (.tmp 93)))]
def r19 : List G := [(some 97, none, (.mv (.tmp 14))), (some 98, none, (.mv (.tmp 18))), (some 99, none, (.is 1 (.tmp 97) (.tmp 98))), (some 100, none, (.ld false 1 (.tmp 99))), (some 101, none, (.mv (.tmp 16))), (some 102, none, (.mv (.tmp 18))), (some 103, none, (.is 1 (.tmp 101) (.tmp 102))), (some 104, none, (.ld false 1 (.tmp 103))), (some 105, none, (.bin .neq (.tmp 100) (.tmp 104)))]
def t19 : List G := []
def r20 : List G := [(some 6, none, (.mv (.const (.bool false))))]
def r18 : List G := [(some 95, none, (.mv (.tmp 18))), (some 96, none, (.bin .add (.tmp 95) (.const (.int .i64 1)))), (some 18, none, (.mv (.tmp 96)))]
def r21 : List G := [(some 106, none, (.call false 27 [])), (some 6, none, (.mv (.tmp 106)))]
def c : MC := (.seq (.reg r0 (some [0, 1, 2])) (.seq (.reg r1 (some [1, 2, 7])) (.seq (.reg r2 (some [1, 2, 7, 8, 9])) (.seq (.reg r3 (some [1, 2, 7, 8, 9, 10])) (.seq (.seq (.reg r4 (some [1, 2, 7, 8, 9, 10, 11])) (.block 0 (.loop (.seq (.seq (.reg r5 (some [1, 2, 7, 8, 9, 10, 11, 25])) (.cond (.tmp 25) .skip (.exit 0))) (.seq (.block 1 (.seq (.reg r7 (some [1, 2, 7, 8, 9, 10, 11])) (.seq (.reg r8 (some [1, 2, 7, 8, 9, 10, 11, 12])) (.seq (.reg r9 (some [1, 2, 7, 8, 9, 10, 11, 12])) (.reg r10 (some [1, 2, 7, 8, 9, 10, 11])))))) (.reg r6 (some [1, 2, 7, 8, 9, 10, 11]))))))) (.seq (.reg r11 (some [8, 9, 13])) (.seq (.reg r12 (some [9, 13, 14, 15])) (.seq (.reg r13 (some [13, 14, 15, 16, 17])) (.seq (.seq (.reg r14 (some [13, 14, 16, 91])) (.cond (.tmp 91) (.seq (.reg r15 (some [6])) .ret) .skip)) (.seq (.seq (.reg r16 (some [13, 14, 16, 18])) (.block 2 (.loop (.seq (.seq (.reg r17 (some [13, 14, 16, 18, 94])) (.cond (.tmp 94) .skip (.exit 2))) (.seq (.block 3 (.seq (.dreg r19 t19 (some [13, 14, 16, 18, 105])) (.cond (.tmp 105) (.seq (.reg r20 (some [6])) .ret) .skip))) (.reg r18 (some [13, 14, 16, 18]))))))) (.seq (.reg r21 (some [6])) .ret)))))))))))
def ann : Ann := [(0, (some [0, 1, 2], 0, [], [], [])), (1, (some [1, 2, 7], 0, [], [], [])), (2, (some [1, 2, 7, 8, 9], 0, [], [], [])), (3, (some [1, 2, 7, 8, 9, 10], 0, [], [], [])), (4, (some [1, 2, 7, 8, 9, 10, 11], 0, [], [], [])), (5, (some [1, 2, 7, 8, 9, 10, 11, 25], 0, [], [], [])), (6, (some [1, 2, 7, 8, 9, 10, 11], 0, [], [], [])), (7, (some [1, 2, 7, 8, 9, 10, 11], 0, [], [], [])), (8, (some [1, 2, 7, 8, 9, 10, 11, 12], 0, [], [], [])), (9, (some [1, 2, 7, 8, 9, 10, 11, 12], 0, [], [], [])), (10, (some [1, 2, 7, 8, 9, 10, 11], 0, [], [], [])), (11, (some [8, 9, 13], 0, [], [], [])), (12, (some [9, 13, 14, 15], 0, [], [], [])), (13, (some [13, 14, 15, 16, 17], 0, [], [], [])), (14, (some [13, 14, 16, 91], 0, [], [], [])), (15, (some [6], 0, [], [], [])), (16, (some [13, 14, 16, 18], 0, [], [], [])), (17, (some [13, 14, 16, 18, 94], 0, [], [], [])), (18, (some [13, 14, 16, 18], 0, [], [], [])), (19, (some [13, 14, 16, 18, 105], 9, [], [(0, 0), (1, 0), (2, 0), (3, 0), (4, 0), (5, 0), (6, 0), (7, 0), (8, 0)], [])), (20, (some [6], 0, [], [], [])), (21, (some [6], 0, [], [], []))]
theorem ok : compF Try.prog Try.f10 ann = some (107, c, [(6, none)]) := by kernel_rfl
def p1 (S : St) : Prop := ops C r21 (kq [6] R) S
def p3 (S : St) : Prop := ops C r18 (kq [13, 14, 16, 18] L1) S
def p5 (S : St) : Prop := ops C r20 (kq [6] R) S
def p4 (S : St) : Prop := condX (S.ev (.tmp 105)) (p5 C R) (p3 C L1) S
def p6 (S : St) : Prop := ops C r19 (ops C t19 (kq [13, 14, 16, 18, 105] (p4 C R L1))) S
def p7 (S : St) : Prop := condX (S.ev (.tmp 94)) (p6 C R L1) (p1 C R) S
def p8 (S : St) : Prop := ops C r17 (kq [13, 14, 16, 18, 94] (p7 C R L1)) S
def p2 (S : St) : Prop := LX C (fun L1 => (p8 C R L1)) S
theorem p2_l (S : St) : p2 C R S = LX C (fun L1 => (p8 C R L1)) S := rfl
def p9 (S : St) : Prop := ops C r16 (kq [13, 14, 16, 18] (p2 C R)) S
def p11 (S : St) : Prop := ops C r15 (kq [6] R) S
def p10 (S : St) : Prop := condX (S.ev (.tmp 91)) (p11 C R) (p9 C R) S
def p12 (S : St) : Prop := ops C r14 (kq [13, 14, 16, 91] (p10 C R)) S
def p13 (S : St) : Prop := ops C r13 (kq [13, 14, 15, 16, 17] (p12 C R)) S
def p14 (S : St) : Prop := ops C r12 (kq [9, 13, 14, 15] (p13 C R)) S
def p15 (S : St) : Prop := ops C r11 (kq [8, 9, 13] (p14 C R)) S
def p17 (S : St) : Prop := ops C r6 (kq [1, 2, 7, 8, 9, 10, 11] L1) S
def p18 (S : St) : Prop := ops C r10 (kq [1, 2, 7, 8, 9, 10, 11] (p17 C L1)) S
def p19 (S : St) : Prop := ops C r9 (kq [1, 2, 7, 8, 9, 10, 11, 12] (p18 C L1)) S
def p20 (S : St) : Prop := ops C r8 (kq [1, 2, 7, 8, 9, 10, 11, 12] (p19 C L1)) S
def p21 (S : St) : Prop := ops C r7 (kq [1, 2, 7, 8, 9, 10, 11] (p20 C L1)) S
def p22 (S : St) : Prop := condX (S.ev (.tmp 25)) (p21 C L1) (p15 C R) S
def p23 (S : St) : Prop := ops C r5 (kq [1, 2, 7, 8, 9, 10, 11, 25] (p22 C R L1)) S
def p16 (S : St) : Prop := LX C (fun L1 => (p23 C R L1)) S
theorem p16_l (S : St) : p16 C R S = LX C (fun L1 => (p23 C R L1)) S := rfl
def p24 (S : St) : Prop := ops C r4 (kq [1, 2, 7, 8, 9, 10, 11] (p16 C R)) S
def p25 (S : St) : Prop := ops C r3 (kq [1, 2, 7, 8, 9, 10] (p24 C R)) S
def p26 (S : St) : Prop := ops C r2 (kq [1, 2, 7, 8, 9] (p25 C R)) S
def p27 (S : St) : Prop := ops C r1 (kq [1, 2, 7] (p26 C R)) S
def p28 (S : St) : Prop := ops C r0 (kq [0, 1, 2] (p27 C R)) S
theorem s (S : St) : X C c (retK R) S = p28 C R S := by kernel_rfl
theorem E1 : type_of% @r21.eq_1 ∧ type_of% @p1.eq_1 ∧ type_of% @r18.eq_1 ∧ type_of% @p3.eq_1 ∧ type_of% @r20.eq_1 ∧ type_of% @p5.eq_1 ∧ type_of% @p4.eq_1 ∧ type_of% @r19.eq_1 ∧ type_of% @t19.eq_1 ∧ type_of% @p6.eq_1 ∧ type_of% @p7.eq_1 ∧ type_of% @r17.eq_1 ∧ type_of% @p8.eq_1 ∧ type_of% @r16.eq_1 ∧ type_of% @p9.eq_1 ∧ type_of% @r15.eq_1 ∧ type_of% @p11.eq_1 ∧ type_of% @p10.eq_1 ∧ type_of% @r14.eq_1 ∧ type_of% @p12.eq_1 ∧ type_of% @r13.eq_1 ∧ type_of% @p13.eq_1 ∧ type_of% @r12.eq_1 ∧ type_of% @p14.eq_1 ∧ type_of% @r11.eq_1 ∧ type_of% @p15.eq_1 ∧ type_of% @r6.eq_1 ∧ type_of% @p17.eq_1 ∧ type_of% @r10.eq_1 ∧ type_of% @p18.eq_1 ∧ type_of% @r9.eq_1 ∧ type_of% @p19.eq_1 ∧ type_of% @r8.eq_1 ∧ type_of% @p20.eq_1 ∧ type_of% @r7.eq_1 ∧ type_of% @p21.eq_1 ∧ type_of% @p22.eq_1 ∧ type_of% @r5.eq_1 ∧ type_of% @p23.eq_1 ∧ type_of% @r4.eq_1 := ⟨@r21.eq_1, @p1.eq_1, @r18.eq_1, @p3.eq_1, @r20.eq_1, @p5.eq_1, @p4.eq_1, @r19.eq_1, @t19.eq_1, @p6.eq_1, @p7.eq_1, @r17.eq_1, @p8.eq_1, @r16.eq_1, @p9.eq_1, @r15.eq_1, @p11.eq_1, @p10.eq_1, @r14.eq_1, @p12.eq_1, @r13.eq_1, @p13.eq_1, @r12.eq_1, @p14.eq_1, @r11.eq_1, @p15.eq_1, @r6.eq_1, @p17.eq_1, @r10.eq_1, @p18.eq_1, @r9.eq_1, @p19.eq_1, @r8.eq_1, @p20.eq_1, @r7.eq_1, @p21.eq_1, @p22.eq_1, @r5.eq_1, @p23.eq_1, @r4.eq_1⟩
theorem E2 : type_of% @p24.eq_1 ∧ type_of% @r3.eq_1 ∧ type_of% @p25.eq_1 ∧ type_of% @r2.eq_1 ∧ type_of% @p26.eq_1 ∧ type_of% @r1.eq_1 ∧ type_of% @p27.eq_1 ∧ type_of% @r0.eq_1 ∧ type_of% @p28.eq_1 ∧ type_of% @s := ⟨@p24.eq_1, @r3.eq_1, @p25.eq_1, @r2.eq_1, @p26.eq_1, @r1.eq_1, @p27.eq_1, @r0.eq_1, @p28.eq_1, @s⟩
theorem E : type_of% @E1 ∧ type_of% @E2 := ⟨@E1, @E2⟩
end w25_LttbShifts
end Go.Proofs.Ythcboomdkpiflaa
