/- MADE BY PROGRAM (sxgen.py): the small code of some functions, points of it and their equations. -/
import Derived.Test.YtiiflgfnbgencaaDoorProg
import Derived.Test.YtiiflgfnbgencaaDoorWt2
namespace Go.Proofs.YtiiflgfnbgencaaDoor
open Go Go.RowKit Sx
set_option linter.unusedVariables false
variable (C : Cx) (R L1 L2 L3 L4 : St → Prop)

/-! ### tscodec/tscodeclaw02.WideTexts -/
namespace w02_WideTexts
def r0 : List G := [(some 3, none, (.box true 5 (.tmp 0))), (some 6, none, (.mv (.const (.bool false))))]
def r1 : List G := [(some 8, none, (.mv (.tmp 2))), (some 9, none, (.call false 9 [(.tmp 8)])), (some 10, none, (.call false 10 [(.tmp 9)])), (some 7, none, (.new zW)), (none, none, (.st true 5 (.tmp 7) (.tmp 10)))]
def r2 : List G := [(some 11, none, (.call true 13 [])), (some 12, none, (.mv (.tmp 11))), (some 13, some (12, true), (.ld true 5 (.tmp 3))), (some 14, some (12, true), (.call true 24 [(.tmp 13)])), (some 15, some (12, true), (.ld true 5 (.tmp 3))), (some 16, some (12, true), (.call true 25 [(.tmp 15)])), (some 17, some (12, true), (.eqg false 9 (.tmp 14) (.tmp 16))), (some 18, none, (.pick (.tmp 12) (.tmp 17) (.const (.bool false)))), (some 19, none, (.mv (.tmp 18))), (some 20, some (19, true), (.ld true 5 (.tmp 7))), (some 21, some (19, true), (.call true 24 [(.tmp 20)])), (some 22, some (19, true), (.ld true 5 (.tmp 7))), (some 23, some (19, true), (.call true 25 [(.tmp 22)])), (some 24, some (19, true), (.eqg false 9 (.tmp 21) (.tmp 23))), (some 25, none, (.pick (.tmp 19) (.tmp 24) (.const (.bool false)))), (some 26, none, (.mv (.tmp 25))), (some 27, some (26, true), (.mv (.tmp 1))), (some 28, some (26, true), (.call true 15 [(.tmp 27)])), (some 29, some (26, true), (.call true 24 [(.tmp 28)])), (some 30, some (26, true), (.mv (.tmp 1))), (some 31, some (26, true), (.call true 18 [(.tmp 30)])), (some 32, some (26, true), (.call true 25 [(.tmp 31)])), (some 33, some (26, true), (.eqg false 9 (.tmp 29) (.tmp 32))), (some 34, none, (.pick (.tmp 26) (.tmp 33) (.const (.bool false))))]
def t2 : List G := [(some 6, none, (.mv (.tmp 34)))]
def c : MC := (.seq (.reg r0 (some [1, 2, 3])) (.seq (.reg r1 (some [1, 3, 7])) (.seq (.dreg r2 t2 (some [6])) .ret)))
def ann : Ann := [(0, (some [1, 2, 3], 0, [], [], [])), (1, (some [1, 3, 7], 0, [], [], [])), (2, (some [6], 24, [], [(0, 0), (1, 0), (2, 0), (3, 0), (4, 0), (5, 0), (6, 0), (7, 0), (8, 0), (9, 0), (10, 0), (11, 0), (12, 0), (13, 0), (14, 0), (15, 0), (16, 0), (17, 0), (18, 0), (19, 0), (20, 0), (21, 0), (22, 0), (23, 0)], []))]
theorem ok : compF Tryd.prog Tryd.f7 ann = some (35, c, [(6, none)]) := by kernel_rfl
def p1 (S : St) : Prop := ops C r2 (ops C t2 (kq [6] R)) S
def p2 (S : St) : Prop := ops C r1 (kq [1, 3, 7] (p1 C R)) S
def p3 (S : St) : Prop := ops C r0 (kq [1, 2, 3] (p2 C R)) S
theorem s (S : St) : X C c (retK R) S = p3 C R S := by kernel_rfl
theorem E : type_of% @r2.eq_1 ∧ type_of% @t2.eq_1 ∧ type_of% @p1.eq_1 ∧ type_of% @r1.eq_1 ∧ type_of% @p2.eq_1 ∧ type_of% @r0.eq_1 ∧ type_of% @p3.eq_1 ∧ type_of% @s := ⟨@r2.eq_1, @t2.eq_1, @p1.eq_1, @r1.eq_1, @p2.eq_1, @r0.eq_1, @p3.eq_1, @s⟩
end w02_WideTexts
end Go.Proofs.YtiiflgfnbgencaaDoor
