/- MADE BY PROGRAM (sxgen.py): the small code of some functions, points of it and their equations. -/
import Derived.Test.YtiiflgfnbgencaaDoorProg
import Derived.Test.YtiiflgfnbgencaaDoorWd2
namespace Go.Proofs.YtiiflgfnbgencaaDoor
open Go Go.RowKit Sx
set_option linter.unusedVariables false
variable (C : Cx) (R L1 L2 L3 L4 : St → Prop)

/-! ### tscodec/tscodeclaw02.WideNumbers -/
namespace w02_WideNumbers
def r0 : List G := [(some 4, none, (.mv (.const (.bool false))))]
def r1 : List G := [(some 12, none, (.mv (.tmp 0))), (some 13, none, (.call false 15 [(.tmp 12)])), (some 14, none, (.call false 14 [(.tmp 13)])), (some 11, none, (.mv (.tmp 14))), (some 15, none, (.ex (.tmp 11) 0)), (some 16, none, (.ex (.tmp 11) 1)), (some 5, none, (.mv (.tmp 15))), (some 6, none, (.mv (.tmp 16)))]
def r2 : List G := [(some 18, none, (.mv (.tmp 1))), (some 19, none, (.call false 17 [(.tmp 18)])), (some 20, none, (.call false 16 [(.tmp 19)])), (some 17, none, (.mv (.tmp 20))), (some 21, none, (.ex (.tmp 17) 0)), (some 22, none, (.ex (.tmp 17) 1)), (some 7, none, (.mv (.tmp 21))), (some 8, none, (.mv (.tmp 22)))]
def r3 : List G := [(some 24, none, (.mv (.tmp 0))), (some 25, none, (.call false 15 [(.tmp 24)])), (some 26, none, (.call false 16 [(.tmp 25)])), (some 23, none, (.mv (.tmp 26))), (some 27, none, (.ex (.tmp 23) 0)), (some 28, none, (.ex (.tmp 23) 1)), (some 9, none, (.mv (.tmp 27))), (some 10, none, (.mv (.tmp 28)))]
def r4 : List G := [(some 29, none, (.call false 13 [])), (some 30, none, (.mv (.tmp 29))), (some 31, some (30, true), (.mv (.tmp 0))), (some 32, some (30, true), (.call false 15 [(.tmp 31)])), (some 33, some (30, true), (.mv (.tmp 0))), (some 34, some (30, true), (.call false 18 [(.tmp 33)])), (some 35, some (30, true), (.eqg false 28 (.tmp 32) (.tmp 34))), (some 36, none, (.pick (.tmp 30) (.tmp 35) (.const (.bool false)))), (some 37, none, (.mv (.tmp 36))), (some 38, some (37, true), (.mv (.tmp 1))), (some 39, some (37, true), (.call false 17 [(.tmp 38)])), (some 40, some (37, true), (.mv (.tmp 1))), (some 41, some (37, true), (.call false 19 [(.tmp 40)])), (some 42, some (37, true), (.eqg false 28 (.tmp 39) (.tmp 41))), (some 43, none, (.pick (.tmp 37) (.tmp 42) (.const (.bool false)))), (some 44, none, (.mv (.tmp 43))), (some 45, some (44, true), (.mv (.tmp 6))), (some 46, none, (.pick (.tmp 44) (.tmp 45) (.const (.bool false)))), (some 47, none, (.mv (.tmp 46))), (some 48, some (47, true), (.mv (.tmp 8))), (some 49, none, (.pick (.tmp 47) (.tmp 48) (.const (.bool false)))), (some 50, none, (.mv (.tmp 49))), (some 51, some (50, true), (.mv (.tmp 5))), (some 52, some (50, true), (.mv (.tmp 0))), (some 53, some (50, true), (.bin .eql (.tmp 51) (.tmp 52))), (some 54, none, (.pick (.tmp 50) (.tmp 53) (.const (.bool false)))), (some 55, none, (.mv (.tmp 54))), (some 56, some (55, true), (.mv (.tmp 7))), (some 57, some (55, true), (.mv (.tmp 1))), (some 58, some (55, true), (.bin .eql (.tmp 56) (.tmp 57))), (some 59, none, (.pick (.tmp 55) (.tmp 58) (.const (.bool false)))), (some 60, none, (.mv (.tmp 59))), (some 61, some (60, true), (.mv (.tmp 10))), (some 62, some (60, true), (.mv (.tmp 0))), (some 63, some (60, true), (.bin .geq (.tmp 62) (.const (.int .i64 0)))), (some 64, some (60, true), (.bq false (.tmp 61) (.tmp 63))), (some 65, none, (.pick (.tmp 60) (.tmp 64) (.const (.bool false)))), (some 66, none, (.mv (.tmp 65))), (some 67, some (66, true), (.mv (.tmp 10))), (some 68, some (66, true), (.un .not (.tmp 67))), (some 69, some (66, true), (.mv (.tmp 68))), (some 70, some (69, false), (.mv (.tmp 9))), (some 71, some (69, false), (.mv (.tmp 0))), (some 72, some (69, false), (.cv .u64 (.tmp 71))), (some 73, some (69, false), (.bin .eql (.tmp 70) (.tmp 72))), (some 74, some (66, true), (.pick (.tmp 69) (.const (.bool true)) (.tmp 73))), (some 75, none, (.pick (.tmp 66) (.tmp 74) (.const (.bool false)))), (some 4, none, (.mv (.tmp 75)))]
def c : MC := (.seq (.reg r0 (some [0, 1])) (.seq (.reg r1 (some [0, 1, 5, 6])) (.seq (.reg r2 (some [0, 1, 5, 6, 7, 8])) (.seq (.reg r3 (some [0, 1, 5, 6, 7, 8, 9, 10])) (.seq (.reg r4 (some [4])) .ret)))))
def ann : Ann := [(0, (some [0, 1], 0, [], [], [])), (1, (some [0, 1, 5, 6], 0, [], [], [])), (2, (some [0, 1, 5, 6, 7, 8], 0, [], [], [])), (3, (some [0, 1, 5, 6, 7, 8, 9, 10], 0, [], [], [])), (4, (some [4], 0, [], [], []))]
theorem ok : compF Tryd.prog Tryd.f4 ann = some (76, c, [(4, none)]) := by kernel_rfl
def p1 (S : St) : Prop := ops C r4 (kq [4] R) S
def p2 (S : St) : Prop := ops C r3 (kq [0, 1, 5, 6, 7, 8, 9, 10] (p1 C R)) S
def p3 (S : St) : Prop := ops C r2 (kq [0, 1, 5, 6, 7, 8] (p2 C R)) S
def p4 (S : St) : Prop := ops C r1 (kq [0, 1, 5, 6] (p3 C R)) S
def p5 (S : St) : Prop := ops C r0 (kq [0, 1] (p4 C R)) S
theorem s (S : St) : X C c (retK R) S = p5 C R S := by kernel_rfl
theorem E : type_of% @r4.eq_1 ∧ type_of% @p1.eq_1 ∧ type_of% @r3.eq_1 ∧ type_of% @p2.eq_1 ∧ type_of% @r2.eq_1 ∧ type_of% @p3.eq_1 ∧ type_of% @r1.eq_1 ∧ type_of% @p4.eq_1 ∧ type_of% @r0.eq_1 ∧ type_of% @p5.eq_1 ∧ type_of% @s := ⟨@r4.eq_1, @p1.eq_1, @r3.eq_1, @p2.eq_1, @r2.eq_1, @p3.eq_1, @r1.eq_1, @p4.eq_1, @r0.eq_1, @p5.eq_1, @s⟩
end w02_WideNumbers
end Go.Proofs.YtiiflgfnbgencaaDoor
