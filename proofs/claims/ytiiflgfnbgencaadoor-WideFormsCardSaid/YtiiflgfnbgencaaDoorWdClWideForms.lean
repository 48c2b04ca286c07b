/- MADE BY PROGRAM (sxgen.py): the small code of some functions, points of it and their equations. -/
import Derived.Test.YtiiflgfnbgencaaDoorProg
import Derived.Test.YtiiflgfnbgencaaDoorWd2
namespace Go.Proofs.YtiiflgfnbgencaaDoor
open Go Go.RowKit Sx
set_option linter.unusedVariables false
variable (C : Cx) (R L1 L2 L3 L4 : St → Prop)

/-! ### tscodec/tscodeclaw02.WideForms -/
namespace w02_WideForms
def r0 : List G := [(some 3, none, (.box true 5 (.tmp 0))), (some 4, none, (.box true 5 (.tmp 1))), (some 6, none, (.mv (.const (.bool false))))]
def r1 : List G := [(some 10, none, (.mv (.tmp 2))), (some 11, none, (.call false 9 [(.tmp 10)])), (some 7, none, (.mv (.tmp 11)))]
def r2 : List G := [(some 12, none, (.mv (.tmp 7))), (some 13, none, (.call false 10 [(.tmp 12)])), (some 14, none, (.mv (.tmp 7))), (some 15, none, (.call false 10 [(.tmp 14)])), (some 8, none, (.new zW)), (some 9, none, (.new zW)), (none, none, (.st true 5 (.tmp 8) (.tmp 13))), (none, none, (.st true 5 (.tmp 9) (.tmp 15)))]
def r3 : List G := [(some 16, none, (.call true 13 [])), (some 17, none, (.mv (.tmp 16))), (some 18, some (17, true), (.ld true 5 (.tmp 3))), (some 19, some (17, true), (.ld true 5 (.tmp 4))), (some 20, some (17, true), (.call true 26 [(.tmp 18), (.tmp 19)])), (some 21, none, (.pick (.tmp 17) (.tmp 20) (.const (.bool false)))), (some 22, none, (.mv (.tmp 21))), (some 23, some (22, true), (.ld true 5 (.tmp 8))), (some 24, some (22, true), (.ld true 5 (.tmp 9))), (some 25, some (22, true), (.call true 26 [(.tmp 23), (.tmp 24)])), (some 26, none, (.pick (.tmp 22) (.tmp 25) (.const (.bool false)))), (some 27, none, (.mv (.tmp 26))), (some 28, some (27, true), (.ld true 5 (.tmp 9))), (some 29, some (27, true), (.ld true 5 (.tmp 8))), (some 30, some (27, true), (.call true 26 [(.tmp 28), (.tmp 29)])), (some 31, none, (.pick (.tmp 27) (.tmp 30) (.const (.bool false)))), (some 32, none, (.mv (.tmp 31))), (some 33, some (32, true), (.ld true 5 (.tmp 3))), (some 34, some (32, true), (.ld true 5 (.tmp 8))), (some 35, some (32, true), (.call true 26 [(.tmp 33), (.tmp 34)])), (some 36, none, (.pick (.tmp 32) (.tmp 35) (.const (.bool false)))), (some 37, none, (.mv (.tmp 36))), (some 38, some (37, true), (.ld true 5 (.tmp 8))), (some 39, some (37, true), (.call true 15 [(.const (.int .i64 (-1)))])), (some 40, some (37, true), (.call true 26 [(.tmp 38), (.tmp 39)])), (some 41, none, (.pick (.tmp 37) (.tmp 40) (.const (.bool false)))), (some 42, none, (.mv (.tmp 41))), (some 43, some (42, true), (.ld true 5 (.tmp 8))), (some 44, some (42, true), (.ld true 5 (.tmp 8))), (some 45, some (42, true), (.call true 26 [(.tmp 43), (.tmp 44)])), (some 46, none, (.pick (.tmp 42) (.tmp 45) (.const (.bool false))))]
def t3 : List G := [(some 6, none, (.mv (.tmp 46)))]
def c : MC := (.seq (.reg r0 (some [2, 3, 4])) (.seq (.reg r1 (some [3, 4, 7])) (.seq (.reg r2 (some [3, 4, 8, 9])) (.seq (.dreg r3 t3 (some [6])) .ret))))
def ann : Ann := [(0, (some [2, 3, 4], 0, [], [], [])), (1, (some [3, 4, 7], 0, [], [], [])), (2, (some [3, 4, 8, 9], 0, [], [], [])), (3, (some [6], 31, [], [(0, 0), (1, 0), (2, 0), (3, 0), (4, 0), (5, 0), (6, 0), (7, 0), (8, 0), (9, 0), (10, 0), (11, 0), (12, 0), (13, 0), (14, 0), (15, 0), (16, 0), (17, 0), (18, 0), (19, 0), (20, 0), (21, 0), (22, 0), (23, 0), (24, 0), (25, 0), (26, 0), (27, 0), (28, 0), (29, 0), (30, 0)], []))]
theorem ok : compF Tryd.prog Tryd.f8 ann = some (47, c, [(6, none)]) := by kernel_rfl
def p1 (S : St) : Prop := ops C r3 (ops C t3 (kq [6] R)) S
def p2 (S : St) : Prop := ops C r2 (kq [3, 4, 8, 9] (p1 C R)) S
def p3 (S : St) : Prop := ops C r1 (kq [3, 4, 7] (p2 C R)) S
def p4 (S : St) : Prop := ops C r0 (kq [2, 3, 4] (p3 C R)) S
theorem s (S : St) : X C c (retK R) S = p4 C R S := by kernel_rfl
theorem E : type_of% @r3.eq_1 ∧ type_of% @t3.eq_1 ∧ type_of% @p1.eq_1 ∧ type_of% @r2.eq_1 ∧ type_of% @p2.eq_1 ∧ type_of% @r1.eq_1 ∧ type_of% @p3.eq_1 ∧ type_of% @r0.eq_1 ∧ type_of% @p4.eq_1 ∧ type_of% @s := ⟨@r3.eq_1, @t3.eq_1, @p1.eq_1, @r2.eq_1, @p2.eq_1, @r1.eq_1, @p3.eq_1, @r0.eq_1, @p4.eq_1, @s⟩
end w02_WideForms
end Go.Proofs.YtiiflgfnbgencaaDoor
