/- MADE BY PROGRAM (sxgen.py): the small code of some functions, points of it and their equations. -/
import Derived.Test.YtiiflgfnbgencaaDoorProg
import Derived.Test.YtiiflgfnbgencaaDoorWd2
namespace Go.Proofs.YtiiflgfnbgencaaDoor
open Go Go.RowKit Sx
set_option linter.unusedVariables false
variable (C : Cx) (R L1 L2 L3 L4 : St → Prop)

/-! ### tscodec/tscodeclaw02.WideOrder -/
namespace w02_WideOrder
def r0 : List G := [(some 2, none, (.mv (.const (.bool false))))]
def r1 : List G := [(some 12, none, (.mv (.tmp 0))), (some 13, none, (.call false 9 [(.tmp 12)])), (some 3, none, (.mv (.tmp 13)))]
def r2 : List G := [(some 14, none, (.mv (.tmp 3))), (some 15, none, (.call false 10 [(.tmp 14)])), (some 16, none, (.mv (.tmp 3))), (some 17, none, (.call false 10 [(.tmp 16)])), (some 18, none, (.mv (.tmp 3))), (some 19, none, (.call false 10 [(.tmp 18)])), (some 4, none, (.new zW)), (some 5, none, (.new zW)), (some 6, none, (.new zW)), (none, none, (.st true 5 (.tmp 4) (.tmp 15))), (none, none, (.st true 5 (.tmp 5) (.tmp 17))), (none, none, (.st true 5 (.tmp 6) (.tmp 19)))]
def r3 : List G := [(some 21, none, (.ld true 5 (.tmp 4))), (some 22, none, (.ld true 5 (.tmp 5))), (some 23, none, (.call false 23 [(.tmp 21), (.tmp 22)])), (some 20, none, (.mv (.tmp 23))), (some 24, none, (.ex (.tmp 20) 0)), (some 25, none, (.ex (.tmp 20) 1)), (some 7, none, (.new zW)), (none, none, (.st true 5 (.tmp 7) (.tmp 24))), (some 8, none, (.mv (.tmp 25)))]
def r4 : List G := [(some 26, none, (.ld true 5 (.tmp 4))), (some 27, none, (.ld true 5 (.tmp 5))), (some 28, none, (.call true 22 [(.tmp 26), (.tmp 27)])), (some 29, none, (.ld true 5 (.tmp 5))), (some 30, none, (.ld true 5 (.tmp 6))), (some 31, none, (.call true 22 [(.tmp 29), (.tmp 30)])), (some 32, none, (.ld true 5 (.tmp 4))), (some 33, none, (.ld true 5 (.tmp 6))), (some 34, none, (.call true 22 [(.tmp 32), (.tmp 33)]))]
def t4 : List G := [(some 9, none, (.mv (.tmp 28))), (some 10, none, (.mv (.tmp 31))), (some 11, none, (.mv (.tmp 34)))]
def r5 : List G := [(some 35, none, (.call false 13 [])), (some 36, none, (.mv (.tmp 35))), (some 37, some (36, true), (.mv (.tmp 9))), (some 38, some (36, true), (.ld true 5 (.tmp 5))), (some 39, some (36, true), (.ld true 5 (.tmp 4))), (some 40, some (36, true), (.call false 22 [(.tmp 38), (.tmp 39)])), (some 41, some (36, true), (.un .neg (.tmp 40))), (some 42, some (36, true), (.bin .eql (.tmp 37) (.tmp 41))), (some 43, none, (.pick (.tmp 36) (.tmp 42) (.const (.bool false)))), (some 44, none, (.mv (.tmp 43))), (some 45, some (44, true), (.mv (.tmp 8))), (some 46, some (44, true), (.un .not (.tmp 45))), (some 47, some (44, true), (.mv (.tmp 46))), (some 48, some (47, false), (.mv (.tmp 9))), (some 49, some (47, false), (.ld true 5 (.tmp 7))), (some 50, some (47, false), (.call false 21 [(.tmp 49)])), (some 51, some (47, false), (.bin .eql (.tmp 48) (.tmp 50))), (some 52, some (44, true), (.pick (.tmp 47) (.const (.bool true)) (.tmp 51))), (some 53, none, (.pick (.tmp 44) (.tmp 52) (.const (.bool false)))), (some 54, none, (.mv (.tmp 53))), (some 55, some (54, true), (.mv (.tmp 9))), (some 56, some (54, true), (.bin .gtr (.tmp 55) (.const (.int .i64 0)))), (some 57, some (54, true), (.mv (.tmp 56))), (some 58, some (57, false), (.mv (.tmp 10))), (some 59, some (57, false), (.bin .gtr (.tmp 58) (.const (.int .i64 0)))), (some 60, some (54, true), (.pick (.tmp 57) (.const (.bool true)) (.tmp 59))), (some 61, some (54, true), (.mv (.tmp 60))), (some 62, some (61, false), (.mv (.tmp 11))), (some 63, some (61, false), (.bin .leq (.tmp 62) (.const (.int .i64 0)))), (some 64, some (54, true), (.pick (.tmp 61) (.const (.bool true)) (.tmp 63))), (some 65, none, (.pick (.tmp 54) (.tmp 64) (.const (.bool false)))), (some 66, none, (.mv (.tmp 65))), (some 67, some (66, true), (.mv (.tmp 9))), (some 68, some (66, true), (.bin .eql (.tmp 67) (.const (.int .i64 0)))), (some 69, some (66, true), (.ld true 5 (.tmp 4))), (some 70, some (66, true), (.ld true 5 (.tmp 5))), (some 71, some (66, true), (.eqg false 28 (.tmp 69) (.tmp 70))), (some 72, some (66, true), (.bq false (.tmp 68) (.tmp 71))), (some 73, none, (.pick (.tmp 66) (.tmp 72) (.const (.bool false)))), (some 2, none, (.mv (.tmp 73)))]
def c : MC := (.seq (.reg r0 (some [0])) (.seq (.reg r1 (some [3])) (.seq (.reg r2 (some [4, 5, 6])) (.seq (.reg r3 (some [4, 5, 6, 7, 8])) (.seq (.dreg r4 t4 (some [4, 5, 7, 8, 9, 10, 11])) (.seq (.reg r5 (some [2])) .ret))))))
def ann : Ann := [(0, (some [0], 0, [], [], [])), (1, (some [3], 0, [], [], [])), (2, (some [4, 5, 6], 0, [], [], [])), (3, (some [4, 5, 6, 7, 8], 0, [], [], [])), (4, (some [4, 5, 7, 8, 9, 10, 11], 9, [], [(0, 0), (1, 0), (2, 0), (3, 0), (4, 0), (5, 0), (6, 0), (7, 0), (8, 0)], [])), (5, (some [2], 0, [], [], []))]
theorem ok : compF Tryd.prog Tryd.f6 ann = some (74, c, [(2, none)]) := by kernel_rfl
def p1 (S : St) : Prop := ops C r5 (kq [2] R) S
def p2 (S : St) : Prop := ops C r4 (ops C t4 (kq [4, 5, 7, 8, 9, 10, 11] (p1 C R))) S
def p3 (S : St) : Prop := ops C r3 (kq [4, 5, 6, 7, 8] (p2 C R)) S
def p4 (S : St) : Prop := ops C r2 (kq [4, 5, 6] (p3 C R)) S
def p5 (S : St) : Prop := ops C r1 (kq [3] (p4 C R)) S
def p6 (S : St) : Prop := ops C r0 (kq [0] (p5 C R)) S
theorem s (S : St) : X C c (retK R) S = p6 C R S := by kernel_rfl
theorem E : type_of% @r5.eq_1 ∧ type_of% @p1.eq_1 ∧ type_of% @r4.eq_1 ∧ type_of% @t4.eq_1 ∧ type_of% @p2.eq_1 ∧ type_of% @r3.eq_1 ∧ type_of% @p3.eq_1 ∧ type_of% @r2.eq_1 ∧ type_of% @p4.eq_1 ∧ type_of% @r1.eq_1 ∧ type_of% @p5.eq_1 ∧ type_of% @r0.eq_1 ∧ type_of% @p6.eq_1 ∧ type_of% @s := ⟨@r5.eq_1, @p1.eq_1, @r4.eq_1, @t4.eq_1, @p2.eq_1, @r3.eq_1, @p3.eq_1, @r2.eq_1, @p4.eq_1, @r1.eq_1, @p5.eq_1, @r0.eq_1, @p6.eq_1, @s⟩
end w02_WideOrder
end Go.Proofs.YtiiflgfnbgencaaDoor
