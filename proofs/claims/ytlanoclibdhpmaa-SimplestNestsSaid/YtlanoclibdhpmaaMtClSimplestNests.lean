/- MADE BY PROGRAM (sxgen.py): the small code of some functions, points of it and their equations. -/
import Derived.Test.YtlanoclibdhpmaaProg
import Derived.Test.YtlanoclibdhpmaaMt2
namespace Go.Proofs.Ytlanoclibdhpmaa
open Go Go.RowKit Sx
set_option linter.unusedVariables false
variable (C : Cx) (R L1 L2 L3 L4 : St → Prop)

/-! ### tscodec/tscodeclaw04.SimplestNests -/
namespace w04_SimplestNests
def r0 : List G := [(some 2, none, (.mv (.const (.bool false))))]
def r1 : List G := [(some 11, none, (.mv (.tmp 0))), (some 12, none, (.call false 14 [(.tmp 11)])), (some 3, none, (.mv (.tmp 12)))]
def r2 : List G := [(some 14, none, (.mv (.tmp 3))), (some 15, none, (.call false 38 [(.tmp 14)])), (some 13, none, (.mv (.tmp 15))), (some 16, none, (.ex (.tmp 13) 0)), (some 17, none, (.ex (.tmp 13) 1)), (some 4, none, (.new zR)), (some 5, none, (.new zR)), (none, none, (.st true 10 (.tmp 4) (.tmp 16))), (none, none, (.st true 10 (.tmp 5) (.tmp 17)))]
def r3 : List G := [(some 18, none, (.mv (.tmp 3))), (some 19, none, (.call false 23 [(.tmp 18)])), (some 6, none, (.new zR)), (none, none, (.st true 10 (.tmp 6) (.tmp 19)))]
def r4 : List G := [(some 20, none, (.ld true 10 (.tmp 6))), (some 21, none, (.ld true 10 (.tmp 4))), (some 22, none, (.call false 28 [(.tmp 20), (.tmp 21)])), (some 23, none, (.bin .lss (.tmp 22) (.const (.int .i64 0)))), (some 24, none, (.mv (.tmp 23))), (some 25, some (24, false), (.ld true 10 (.tmp 6))), (some 26, some (24, false), (.ld true 10 (.tmp 5))), (some 27, some (24, false), (.call false 28 [(.tmp 25), (.tmp 26)])), (some 28, some (24, false), (.bin .gtr (.tmp 27) (.const (.int .i64 0)))), (some 29, none, (.pick (.tmp 24) (.const (.bool true)) (.tmp 28)))]
def r5 : List G := [(some 30, none, (.call false 39 [])), (some 2, none, (.mv (.tmp 30)))]
def r6 : List G := [(some 32, none, (.ld true 10 (.tmp 4))), (some 33, none, (.ld true 10 (.tmp 5))), (some 34, none, (.call false 41 [(.tmp 32), (.tmp 33)])), (some 31, none, (.mv (.tmp 34))), (some 35, none, (.ex (.tmp 31) 0)), (some 36, none, (.ex (.tmp 31) 1)), (some 7, none, (.new zR)), (none, none, (.st true 10 (.tmp 7) (.tmp 35))), (some 8, none, (.mv (.tmp 36)))]
def r7 : List G := [(some 38, none, (.ld true 10 (.tmp 4))), (some 39, none, (.ld true 10 (.tmp 6))), (some 40, none, (.call false 41 [(.tmp 38), (.tmp 39)])), (some 37, none, (.mv (.tmp 40))), (some 41, none, (.ex (.tmp 37) 0)), (some 42, none, (.ex (.tmp 37) 1)), (some 9, none, (.new zR)), (none, none, (.st true 10 (.tmp 9) (.tmp 41))), (some 10, none, (.mv (.tmp 42)))]
def r8 : List G := [(some 43, none, (.call false 39 [])), (some 44, none, (.mv (.tmp 43))), (some 45, some (44, true), (.mv (.tmp 8))), (some 46, none, (.pick (.tmp 44) (.tmp 45) (.const (.bool false)))), (some 47, none, (.mv (.tmp 46))), (some 48, some (47, true), (.mv (.tmp 10))), (some 49, none, (.pick (.tmp 47) (.tmp 48) (.const (.bool false)))), (some 50, none, (.mv (.tmp 49))), (some 51, some (50, true), (.ld true 10 (.tmp 9))), (some 52, some (50, true), (.ld true 10 (.tmp 7))), (some 53, some (50, true), (.call false 43 [(.tmp 51), (.tmp 52)])), (some 54, some (50, true), (.un .not (.tmp 53))), (some 55, none, (.pick (.tmp 50) (.tmp 54) (.const (.bool false)))), (some 56, none, (.mv (.tmp 55))), (some 57, some (56, true), (.ld true 10 (.tmp 7))), (some 58, some (56, true), (.ld true 10 (.tmp 6))), (some 59, some (56, true), (.call false 28 [(.tmp 57), (.tmp 58)])), (some 60, some (56, true), (.bin .gtr (.tmp 59) (.const (.int .i64 0)))), (some 61, some (56, true), (.mv (.tmp 60))), (some 62, some (61, false), (.ld true 10 (.tmp 9))), (some 63, some (61, false), (.ld true 10 (.tmp 7))), (some 64, some (61, false), (.eqg false 35 (.tmp 62) (.tmp 63))), (some 65, some (56, true), (.pick (.tmp 61) (.const (.bool true)) (.tmp 64))), (some 66, none, (.pick (.tmp 56) (.tmp 65) (.const (.bool false)))), (some 2, none, (.mv (.tmp 66)))]
def c : MC := (.seq (.reg r0 (some [0])) (.seq (.reg r1 (some [3])) (.seq (.reg r2 (some [3, 4, 5])) (.seq (.reg r3 (some [4, 5, 6])) (.seq (.seq (.reg r4 (some [4, 5, 6, 29])) (.cond (.tmp 29) (.seq (.reg r5 (some [2])) .ret) .skip)) (.seq (.reg r6 (some [4, 6, 7, 8])) (.seq (.reg r7 (some [6, 7, 8, 9, 10])) (.seq (.reg r8 (some [2])) .ret))))))))
def ann : Ann := [(0, (some [0], 0, [], [], [])), (1, (some [3], 0, [], [], [])), (2, (some [3, 4, 5], 0, [], [], [])), (3, (some [4, 5, 6], 0, [], [], [])), (4, (some [4, 5, 6, 29], 0, [], [], [])), (5, (some [2], 0, [], [], [])), (6, (some [4, 6, 7, 8], 0, [], [], [])), (7, (some [6, 7, 8, 9, 10], 0, [], [], [])), (8, (some [2], 0, [], [], []))]
theorem ok : compF Try.prog Try.f13 ann = some (67, c, [(2, none)]) := by kernel_rfl
def p1 (S : St) : Prop := ops C r8 (kq [2] R) S
def p2 (S : St) : Prop := ops C r7 (kq [6, 7, 8, 9, 10] (p1 C R)) S
def p3 (S : St) : Prop := ops C r6 (kq [4, 6, 7, 8] (p2 C R)) S
def p5 (S : St) : Prop := ops C r5 (kq [2] R) S
def p4 (S : St) : Prop := condX (S.ev (.tmp 29)) (p5 C R) (p3 C R) S
def p6 (S : St) : Prop := ops C r4 (kq [4, 5, 6, 29] (p4 C R)) S
def p7 (S : St) : Prop := ops C r3 (kq [4, 5, 6] (p6 C R)) S
def p8 (S : St) : Prop := ops C r2 (kq [3, 4, 5] (p7 C R)) S
def p9 (S : St) : Prop := ops C r1 (kq [3] (p8 C R)) S
def p10 (S : St) : Prop := ops C r0 (kq [0] (p9 C R)) S
theorem s (S : St) : X C c (retK R) S = p10 C R S := by kernel_rfl
theorem E : type_of% @r8.eq_1 ∧ type_of% @p1.eq_1 ∧ type_of% @r7.eq_1 ∧ type_of% @p2.eq_1 ∧ type_of% @r6.eq_1 ∧ type_of% @p3.eq_1 ∧ type_of% @r5.eq_1 ∧ type_of% @p5.eq_1 ∧ type_of% @p4.eq_1 ∧ type_of% @r4.eq_1 ∧ type_of% @p6.eq_1 ∧ type_of% @r3.eq_1 ∧ type_of% @p7.eq_1 ∧ type_of% @r2.eq_1 ∧ type_of% @p8.eq_1 ∧ type_of% @r1.eq_1 ∧ type_of% @p9.eq_1 ∧ type_of% @r0.eq_1 ∧ type_of% @p10.eq_1 ∧ type_of% @s := ⟨@r8.eq_1, @p1.eq_1, @r7.eq_1, @p2.eq_1, @r6.eq_1, @p3.eq_1, @r5.eq_1, @p5.eq_1, @p4.eq_1, @r4.eq_1, @p6.eq_1, @r3.eq_1, @p7.eq_1, @r2.eq_1, @p8.eq_1, @r1.eq_1, @p9.eq_1, @r0.eq_1, @p10.eq_1, @s⟩
end w04_SimplestNests
end Go.Proofs.Ytlanoclibdhpmaa
