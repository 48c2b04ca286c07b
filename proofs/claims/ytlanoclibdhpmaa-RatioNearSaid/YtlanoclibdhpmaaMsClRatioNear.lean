/- MADE BY PROGRAM (sxgen.py): the small code of some functions, points of it and their equations. -/
import Derived.Test.YtlanoclibdhpmaaProg
import Derived.Test.YtlanoclibdhpmaaMs2
namespace Go.Proofs.Ytlanoclibdhpmaa
open Go Go.RowKit Sx
set_option linter.unusedVariables false
variable (C : Cx) (R L1 L2 L3 L4 : St → Prop)

/-! ### tscodec/tscodeclaw03.RatioNear -/
namespace w03_RatioNear
def r0 : List G := [(some 4, none, (.mv (.const (.bool false))))]
def r1 : List G := [(some 18, none, (.mv (.tmp 0))), (some 19, none, (.call false 14 [(.tmp 18)])), (some 5, none, (.mv (.tmp 19)))]
def r2 : List G := [(some 20, none, (.mv (.tmp 5))), (some 21, none, (.call false 23 [(.tmp 20)])), (some 22, none, (.mv (.tmp 5))), (some 23, none, (.call false 23 [(.tmp 22)])), (some 6, none, (.new zR)), (some 7, none, (.new zR)), (none, none, (.st true 10 (.tmp 6) (.tmp 21))), (none, none, (.st true 10 (.tmp 7) (.tmp 23)))]
def r3 : List G := [(some 25, none, (.fa 0 (.tmp 6))), (some 26, none, (.ld true 5 (.tmp 25))), (some 27, none, (.mv (.tmp 1))), (some 28, none, (.call true 31 [(.tmp 27)])), (some 29, none, (.call true 29 [(.tmp 26), (.tmp 28)])), (some 24, none, (.mv (.tmp 29))), (some 30, none, (.ex (.tmp 24) 0)), (some 31, none, (.ex (.tmp 24) 1))]
def t3 : List G := [(some 8, none, (.new zW)), (none, none, (.st true 5 (.tmp 8) (.tmp 30))), (some 9, none, (.mv (.tmp 31)))]
def r4 : List G := [(some 33, none, (.ld true 10 (.tmp 6))), (some 34, none, (.mv (.tmp 1))), (some 35, none, (.call true 27 [(.tmp 33), (.tmp 34)])), (some 36, none, (.fa 5 (.tmp 6))), (some 37, none, (.ld true 5 (.tmp 36))), (some 38, none, (.call true 29 [(.tmp 35), (.tmp 37)])), (some 32, none, (.mv (.tmp 38))), (some 39, none, (.ex (.tmp 32) 0)), (some 40, none, (.ex (.tmp 32) 1))]
def t4 : List G := [(some 10, none, (.new zW)), (none, none, (.st true 5 (.tmp 10) (.tmp 39))), (some 11, none, (.mv (.tmp 40)))]
def r5 : List G := [(some 42, none, (.ld true 5 (.tmp 8))), (some 43, none, (.ld true 5 (.tmp 10))), (some 44, none, (.call false 26 [(.tmp 42), (.tmp 43)])), (some 41, none, (.mv (.tmp 44))), (some 45, none, (.ex (.tmp 41) 0)), (some 46, none, (.ex (.tmp 41) 1)), (some 12, none, (.new zW)), (none, none, (.st true 5 (.tmp 12) (.tmp 45))), (some 13, none, (.mv (.tmp 46)))]
def r6 : List G := [(some 48, none, (.ld true 5 (.tmp 12))), (some 49, none, (.ld true 5 (.tmp 12))), (some 50, none, (.call false 32 [(.tmp 48), (.tmp 49)])), (some 47, none, (.mv (.tmp 50))), (some 51, none, (.ex (.tmp 47) 0)), (some 52, none, (.ex (.tmp 47) 1)), (some 14, none, (.new zW)), (none, none, (.st true 5 (.tmp 14) (.tmp 51))), (some 15, none, (.mv (.tmp 52)))]
def r7 : List G := [(some 53, none, (.fa 0 (.tmp 14))), (none, none, (.st false 1 (.tmp 53) (.const (.bool false))))]
def r8 : List G := [(some 54, none, (.ld true 5 (.tmp 14))), (some 55, none, (.fa 5 (.tmp 6))), (some 56, none, (.ld true 5 (.tmp 55))), (some 57, none, (.call false 33 [(.tmp 54), (.tmp 56)])), (some 58, none, (.bin .gtr (.tmp 57) (.const (.int .i64 0))))]
def r9 : List G := [(some 4, none, (.mv (.const (.bool false))))]
def r10 : List G := [(some 59, none, (.ld true 10 (.tmp 6))), (some 60, none, (.mv (.tmp 1))), (some 61, none, (.call true 27 [(.tmp 59), (.tmp 60)])), (some 62, none, (.ld true 10 (.tmp 7))), (some 63, none, (.mv (.tmp 1))), (some 64, none, (.call true 27 [(.tmp 62), (.tmp 63)])), (some 65, none, (.call true 33 [(.tmp 61), (.tmp 64)])), (some 66, none, (.ld true 10 (.tmp 6))), (some 67, none, (.ld true 10 (.tmp 7))), (some 68, none, (.call true 30 [(.tmp 66), (.tmp 67)]))]
def t10 : List G := [(some 16, none, (.mv (.tmp 65))), (some 17, none, (.mv (.tmp 68)))]
def r11 : List G := [(some 69, none, (.call false 22 [])), (some 70, none, (.mv (.tmp 69))), (some 71, some (70, true), (.mv (.tmp 17))), (some 72, some (70, true), (.bin .gtr (.tmp 71) (.const (.int .i64 0)))), (some 73, some (70, true), (.mv (.tmp 72))), (some 74, some (73, false), (.mv (.tmp 16))), (some 75, some (73, false), (.bin .leq (.tmp 74) (.const (.int .i64 0)))), (some 76, some (70, true), (.pick (.tmp 73) (.const (.bool true)) (.tmp 75))), (some 77, none, (.pick (.tmp 70) (.tmp 76) (.const (.bool false)))), (some 78, none, (.mv (.tmp 77))), (some 79, some (78, true), (.mv (.tmp 17))), (some 80, some (78, true), (.bin .lss (.tmp 79) (.const (.int .i64 0)))), (some 81, some (78, true), (.mv (.tmp 80))), (some 82, some (81, false), (.mv (.tmp 16))), (some 83, some (81, false), (.bin .geq (.tmp 82) (.const (.int .i64 0)))), (some 84, some (78, true), (.pick (.tmp 81) (.const (.bool true)) (.tmp 83))), (some 85, none, (.pick (.tmp 78) (.tmp 84) (.const (.bool false)))), (some 4, none, (.mv (.tmp 85)))]
def c : MC := (.seq (.reg r0 (some [0, 1])) (.seq (.reg r1 (some [1, 5])) (.seq (.reg r2 (some [1, 6, 7])) (.seq (.dreg r3 t3 (some [1, 6, 7, 8])) (.seq (.dreg r4 t4 (some [1, 6, 7, 8, 10])) (.seq (.reg r5 (some [1, 6, 7, 12])) (.seq (.reg r6 (some [1, 6, 7, 14])) (.seq (.reg r7 (some [1, 6, 7, 14])) (.seq (.seq (.reg r8 (some [1, 6, 7, 58])) (.cond (.tmp 58) (.seq (.reg r9 (some [4])) .ret) .skip)) (.seq (.dreg r10 t10 (some [16, 17])) (.seq (.reg r11 (some [4])) .ret)))))))))))
def ann : Ann := [(0, (some [0, 1], 0, [], [], [])), (1, (some [1, 5], 0, [], [], [])), (2, (some [1, 6, 7], 0, [], [], [])), (3, (some [1, 6, 7, 8], 9, [7], [(0, 0), (1, 0), (2, 0), (3, 0), (4, 0), (5, 0), (6, 0), (7, 2)], [8])), (4, (some [1, 6, 7, 8, 10], 10, [8], [(0, 0), (1, 0), (2, 0), (3, 0), (4, 0), (5, 0), (6, 0), (7, 0), (8, 2)], [9])), (5, (some [1, 6, 7, 12], 0, [], [], [])), (6, (some [1, 6, 7, 14], 0, [], [], [])), (7, (some [1, 6, 7, 14], 0, [], [], [])), (8, (some [1, 6, 7, 58], 0, [], [], [])), (9, (some [4], 0, [], [], [])), (10, (some [16, 17], 10, [], [(0, 0), (1, 0), (2, 0), (3, 0), (4, 0), (5, 0), (6, 0), (7, 0), (8, 0), (9, 0)], [])), (11, (some [4], 0, [], [], []))]
theorem ok : compF Try.prog Try.f7 ann = some (86, c, [(4, none)]) := by kernel_rfl
def p1 (S : St) : Prop := ops C r11 (kq [4] R) S
def p2 (S : St) : Prop := ops C r10 (ops C t10 (kq [16, 17] (p1 C R))) S
def p4 (S : St) : Prop := ops C r9 (kq [4] R) S
def p3 (S : St) : Prop := condX (S.ev (.tmp 58)) (p4 C R) (p2 C R) S
def p5 (S : St) : Prop := ops C r8 (kq [1, 6, 7, 58] (p3 C R)) S
def p6 (S : St) : Prop := ops C r7 (kq [1, 6, 7, 14] (p5 C R)) S
def p7 (S : St) : Prop := ops C r6 (kq [1, 6, 7, 14] (p6 C R)) S
def p8 (S : St) : Prop := ops C r5 (kq [1, 6, 7, 12] (p7 C R)) S
def p9 (S : St) : Prop := ops C r4 (ops C t4 (kq [1, 6, 7, 8, 10] (p8 C R))) S
def p10 (S : St) : Prop := ops C r3 (ops C t3 (kq [1, 6, 7, 8] (p9 C R))) S
def p11 (S : St) : Prop := ops C r2 (kq [1, 6, 7] (p10 C R)) S
def p12 (S : St) : Prop := ops C r1 (kq [1, 5] (p11 C R)) S
def p13 (S : St) : Prop := ops C r0 (kq [0, 1] (p12 C R)) S
theorem s (S : St) : X C c (retK R) S = p13 C R S := by kernel_rfl
theorem E : type_of% @r11.eq_1 ∧ type_of% @p1.eq_1 ∧ type_of% @r10.eq_1 ∧ type_of% @t10.eq_1 ∧ type_of% @p2.eq_1 ∧ type_of% @r9.eq_1 ∧ type_of% @p4.eq_1 ∧ type_of% @p3.eq_1 ∧ type_of% @r8.eq_1 ∧ type_of% @p5.eq_1 ∧ type_of% @r7.eq_1 ∧ type_of% @p6.eq_1 ∧ type_of% @r6.eq_1 ∧ type_of% @p7.eq_1 ∧ type_of% @r5.eq_1 ∧ type_of% @p8.eq_1 ∧ type_of% @r4.eq_1 ∧ type_of% @t4.eq_1 ∧ type_of% @p9.eq_1 ∧ type_of% @r3.eq_1 ∧ type_of% @t3.eq_1 ∧ type_of% @p10.eq_1 ∧ type_of% @r2.eq_1 ∧ type_of% @p11.eq_1 ∧ type_of% @r1.eq_1 ∧ type_of% @p12.eq_1 ∧ type_of% @r0.eq_1 ∧ type_of% @p13.eq_1 ∧ type_of% @s := ⟨@r11.eq_1, @p1.eq_1, @r10.eq_1, @t10.eq_1, @p2.eq_1, @r9.eq_1, @p4.eq_1, @p3.eq_1, @r8.eq_1, @p5.eq_1, @r7.eq_1, @p6.eq_1, @r6.eq_1, @p7.eq_1, @r5.eq_1, @p8.eq_1, @r4.eq_1, @t4.eq_1, @p9.eq_1, @r3.eq_1, @t3.eq_1, @p10.eq_1, @r2.eq_1, @p11.eq_1, @r1.eq_1, @p12.eq_1, @r0.eq_1, @p13.eq_1, @s⟩
end w03_RatioNear
end Go.Proofs.Ytlanoclibdhpmaa
