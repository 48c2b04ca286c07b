/- MADE BY PROGRAM (sxgen.py): the small code of some functions, points of it and their equations. -/
import Derived.Test.YtiiflgfnbgencaaDoorProg
import Derived.Test.YtiiflgfnbgencaaDoorWd2
namespace Go.Proofs.YtiiflgfnbgencaaDoor
open Go Go.RowKit Sx
set_option linter.unusedVariables false
variable (C : Cx) (R L1 L2 L3 L4 : St → Prop)

/-! ### tscodec/tscodeclaw02.WideDivides -/
namespace w02_WideDivides
def r0 : List G := [(some 2, none, (.mv (.const (.bool false))))]
def r1 : List G := [(some 14, none, (.mv (.tmp 0))), (some 15, none, (.call false 9 [(.tmp 14)])), (some 3, none, (.mv (.tmp 15)))]
def r2 : List G := [(some 16, none, (.mv (.tmp 3))), (some 17, none, (.call false 10 [(.tmp 16)])), (some 18, none, (.mv (.tmp 3))), (some 19, none, (.call false 10 [(.tmp 18)])), (some 4, none, (.new zW)), (some 5, none, (.new zW)), (none, none, (.st true 5 (.tmp 4) (.tmp 17))), (none, none, (.st true 5 (.tmp 5) (.tmp 19)))]
def r3 : List G := [(some 21, none, (.ld true 5 (.tmp 4))), (some 22, none, (.ld true 5 (.tmp 5))), (some 23, none, (.call false 20 [(.tmp 21), (.tmp 22)])), (some 20, none, (.mv (.tmp 23))), (some 24, none, (.ex (.tmp 20) 0)), (some 25, none, (.ex (.tmp 20) 1)), (some 26, none, (.ex (.tmp 20) 2)), (some 6, none, (.new zW)), (some 7, none, (.new zW)), (none, none, (.st true 5 (.tmp 6) (.tmp 24))), (none, none, (.st true 5 (.tmp 7) (.tmp 25))), (some 8, none, (.mv (.tmp 26)))]
def r4 : List G := [(some 27, none, (.mv (.tmp 8))), (some 28, none, (.un .not (.tmp 27)))]
def r5 : List G := [(some 29, none, (.call false 13 [])), (some 30, none, (.mv (.tmp 29))), (some 31, some (30, true), (.ld true 5 (.tmp 5))), (some 32, some (30, true), (.call false 21 [(.tmp 31)])), (some 33, some (30, true), (.bin .eql (.tmp 32) (.const (.int .i64 0)))), (some 34, none, (.pick (.tmp 30) (.tmp 33) (.const (.bool false)))), (some 2, none, (.mv (.tmp 34)))]
def r6 : List G := [(some 36, none, (.ld true 5 (.tmp 6))), (some 37, none, (.ld true 5 (.tmp 5))), (some 38, none, (.call false 12 [(.tmp 36), (.tmp 37)])), (some 35, none, (.mv (.tmp 38))), (some 39, none, (.ex (.tmp 35) 0)), (some 40, none, (.ex (.tmp 35) 1)), (some 9, none, (.new zW)), (none, none, (.st true 5 (.tmp 9) (.tmp 39))), (some 10, none, (.mv (.tmp 40)))]
def r7 : List G := [(some 41, none, (.ld true 5 (.tmp 5))), (some 11, none, (.new zW)), (none, none, (.st true 5 (.tmp 11) (.tmp 41)))]
def r8 : List G := [(some 42, none, (.fa 0 (.tmp 11))), (none, none, (.st false 1 (.tmp 42) (.const (.bool false))))]
def r9 : List G := [(some 43, none, (.ld true 5 (.tmp 7))), (some 44, none, (.call false 21 [(.tmp 43)])), (some 45, none, (.bin .lss (.tmp 44) (.const (.int .i64 0)))), (some 46, none, (.mv (.tmp 45))), (some 47, some (46, false), (.ld true 5 (.tmp 7))), (some 48, some (46, false), (.ld true 5 (.tmp 11))), (some 49, some (46, false), (.call false 22 [(.tmp 47), (.tmp 48)])), (some 50, some (46, false), (.bin .geq (.tmp 49) (.const (.int .i64 0)))), (some 51, none, (.pick (.tmp 46) (.const (.bool true)) (.tmp 50)))]
def r10 : List G := [(some 2, none, (.mv (.const (.bool false))))]
def r11 : List G := [(some 53, none, (.ld true 5 (.tmp 9))), (some 54, none, (.ld true 5 (.tmp 7))), (some 55, none, (.call false 11 [(.tmp 53), (.tmp 54)])), (some 52, none, (.mv (.tmp 55))), (some 56, none, (.ex (.tmp 52) 0)), (some 57, none, (.ex (.tmp 52) 1)), (some 12, none, (.new zW)), (none, none, (.st true 5 (.tmp 12) (.tmp 56))), (some 13, none, (.mv (.tmp 57)))]
def r12 : List G := [(some 58, none, (.call false 13 [])), (some 59, none, (.mv (.tmp 58))), (some 60, some (59, true), (.mv (.tmp 10))), (some 61, some (59, true), (.un .not (.tmp 60))), (some 62, some (59, true), (.mv (.tmp 61))), (some 63, some (62, false), (.mv (.tmp 13))), (some 64, some (62, false), (.mv (.tmp 63))), (some 65, some (64, true), (.ld true 5 (.tmp 12))), (some 66, some (64, true), (.ld true 5 (.tmp 4))), (some 67, some (64, true), (.eqg false 28 (.tmp 65) (.tmp 66))), (some 68, some (62, false), (.pick (.tmp 64) (.tmp 67) (.const (.bool false)))), (some 69, some (59, true), (.pick (.tmp 62) (.const (.bool true)) (.tmp 68))), (some 70, none, (.pick (.tmp 59) (.tmp 69) (.const (.bool false)))), (some 2, none, (.mv (.tmp 70)))]
def c : MC := (.seq (.reg r0 (some [0])) (.seq (.reg r1 (some [3])) (.seq (.reg r2 (some [4, 5])) (.seq (.reg r3 (some [4, 5, 6, 7, 8])) (.seq (.seq (.reg r4 (some [4, 5, 6, 7, 28])) (.cond (.tmp 28) (.seq (.reg r5 (some [2])) .ret) .skip)) (.seq (.reg r6 (some [4, 5, 7, 9, 10])) (.seq (.reg r7 (some [4, 7, 9, 10, 11])) (.seq (.reg r8 (some [4, 7, 9, 10, 11])) (.seq (.seq (.reg r9 (some [4, 7, 9, 10, 51])) (.cond (.tmp 51) (.seq (.reg r10 (some [2])) .ret) .skip)) (.seq (.reg r11 (some [4, 10, 12, 13])) (.seq (.reg r12 (some [2])) .ret)))))))))))
def ann : Ann := [(0, (some [0], 0, [], [], [])), (1, (some [3], 0, [], [], [])), (2, (some [4, 5], 0, [], [], [])), (3, (some [4, 5, 6, 7, 8], 0, [], [], [])), (4, (some [4, 5, 6, 7, 28], 0, [], [], [])), (5, (some [2], 0, [], [], [])), (6, (some [4, 5, 7, 9, 10], 0, [], [], [])), (7, (some [4, 7, 9, 10, 11], 0, [], [], [])), (8, (some [4, 7, 9, 10, 11], 0, [], [], [])), (9, (some [4, 7, 9, 10, 51], 0, [], [], [])), (10, (some [2], 0, [], [], [])), (11, (some [4, 10, 12, 13], 0, [], [], [])), (12, (some [2], 0, [], [], []))]
theorem ok : compF Tryd.prog Tryd.f5 ann = some (71, c, [(2, none)]) := by kernel_rfl
def p1 (S : St) : Prop := ops C r12 (kq [2] R) S
def p2 (S : St) : Prop := ops C r11 (kq [4, 10, 12, 13] (p1 C R)) S
def p4 (S : St) : Prop := ops C r10 (kq [2] R) S
def p3 (S : St) : Prop := condX (S.ev (.tmp 51)) (p4 C R) (p2 C R) S
def p5 (S : St) : Prop := ops C r9 (kq [4, 7, 9, 10, 51] (p3 C R)) S
def p6 (S : St) : Prop := ops C r8 (kq [4, 7, 9, 10, 11] (p5 C R)) S
def p7 (S : St) : Prop := ops C r7 (kq [4, 7, 9, 10, 11] (p6 C R)) S
def p8 (S : St) : Prop := ops C r6 (kq [4, 5, 7, 9, 10] (p7 C R)) S
def p10 (S : St) : Prop := ops C r5 (kq [2] R) S
def p9 (S : St) : Prop := condX (S.ev (.tmp 28)) (p10 C R) (p8 C R) S
def p11 (S : St) : Prop := ops C r4 (kq [4, 5, 6, 7, 28] (p9 C R)) S
def p12 (S : St) : Prop := ops C r3 (kq [4, 5, 6, 7, 8] (p11 C R)) S
def p13 (S : St) : Prop := ops C r2 (kq [4, 5] (p12 C R)) S
def p14 (S : St) : Prop := ops C r1 (kq [3] (p13 C R)) S
def p15 (S : St) : Prop := ops C r0 (kq [0] (p14 C R)) S
theorem s (S : St) : X C c (retK R) S = p15 C R S := by kernel_rfl
theorem E : type_of% @r12.eq_1 ∧ type_of% @p1.eq_1 ∧ type_of% @r11.eq_1 ∧ type_of% @p2.eq_1 ∧ type_of% @r10.eq_1 ∧ type_of% @p4.eq_1 ∧ type_of% @p3.eq_1 ∧ type_of% @r9.eq_1 ∧ type_of% @p5.eq_1 ∧ type_of% @r8.eq_1 ∧ type_of% @p6.eq_1 ∧ type_of% @r7.eq_1 ∧ type_of% @p7.eq_1 ∧ type_of% @r6.eq_1 ∧ type_of% @p8.eq_1 ∧ type_of% @r5.eq_1 ∧ type_of% @p10.eq_1 ∧ type_of% @p9.eq_1 ∧ type_of% @r4.eq_1 ∧ type_of% @p11.eq_1 ∧ type_of% @r3.eq_1 ∧ type_of% @p12.eq_1 ∧ type_of% @r2.eq_1 ∧ type_of% @p13.eq_1 ∧ type_of% @r1.eq_1 ∧ type_of% @p14.eq_1 ∧ type_of% @r0.eq_1 ∧ type_of% @p15.eq_1 ∧ type_of% @s := ⟨@r12.eq_1, @p1.eq_1, @r11.eq_1, @p2.eq_1, @r10.eq_1, @p4.eq_1, @p3.eq_1, @r9.eq_1, @p5.eq_1, @r8.eq_1, @p6.eq_1, @r7.eq_1, @p7.eq_1, @r6.eq_1, @p8.eq_1, @r5.eq_1, @p10.eq_1, @p9.eq_1, @r4.eq_1, @p11.eq_1, @r3.eq_1, @p12.eq_1, @r2.eq_1, @p13.eq_1, @r1.eq_1, @p14.eq_1, @r0.eq_1, @p15.eq_1, @s⟩
end w02_WideDivides
end Go.Proofs.YtiiflgfnbgencaaDoor
