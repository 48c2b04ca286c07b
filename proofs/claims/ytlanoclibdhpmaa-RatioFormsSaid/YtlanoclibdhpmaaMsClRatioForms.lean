/- MADE BY PROGRAM (sxgen.py): the small code of some functions, points of it and their equations. -/
import Derived.Test.YtlanoclibdhpmaaProg
import Derived.Test.YtlanoclibdhpmaaMs2
namespace Go.Proofs.Ytlanoclibdhpmaa
open Go Go.RowKit Sx
set_option linter.unusedVariables false
variable (C : Cx) (R L1 L2 L3 L4 : St → Prop)

/-! ### tscodec/tscodeclaw03.RatioForms -/
namespace w03_RatioForms
def r0 : List G := [(some 5, none, (.box true 10 (.tmp 0))), (some 6, none, (.box true 10 (.tmp 1))), (some 10, none, (.mv (.const (.bool false))))]
def r1 : List G := [(some 15, none, (.mv (.tmp 4))), (some 16, none, (.call false 14 [(.tmp 15)])), (some 11, none, (.mv (.tmp 16)))]
def r2 : List G := [(some 17, none, (.mv (.tmp 11))), (some 18, none, (.call false 23 [(.tmp 17)])), (some 19, none, (.mv (.tmp 11))), (some 20, none, (.call false 23 [(.tmp 19)])), (some 12, none, (.new zR)), (some 13, none, (.new zR)), (none, none, (.st true 10 (.tmp 12) (.tmp 18))), (none, none, (.st true 10 (.tmp 13) (.tmp 20)))]
def r3 : List G := [(some 21, none, (.mv (.tmp 11))), (some 22, none, (.call false 15 [(.tmp 21)])), (some 23, none, (.mv (.tmp 11))), (some 24, none, (.call false 15 [(.tmp 23)])), (some 25, none, (.bd zR [(0, 5, (.tmp 22)), (5, 5, (.tmp 24))])), (some 14, none, (.new zR)), (none, none, (.st true 10 (.tmp 14) (.tmp 25)))]
def r4 : List G := [(some 26, none, (.call true 22 [])), (some 27, none, (.mv (.tmp 26))), (some 28, some (27, true), (.ld true 10 (.tmp 5))), (some 29, some (27, true), (.ld true 10 (.tmp 6))), (some 30, some (27, true), (.mv (.tmp 2))), (some 31, some (27, true), (.call true 34 [(.tmp 28), (.tmp 29), (.tmp 30)])), (some 32, none, (.pick (.tmp 27) (.tmp 31) (.const (.bool false)))), (some 33, none, (.mv (.tmp 32))), (some 34, some (33, true), (.ld true 10 (.tmp 12))), (some 35, some (33, true), (.ld true 10 (.tmp 13))), (some 36, some (33, true), (.mv (.tmp 2))), (some 37, some (33, true), (.call true 34 [(.tmp 34), (.tmp 35), (.tmp 36)])), (some 38, none, (.pick (.tmp 33) (.tmp 37) (.const (.bool false)))), (some 39, none, (.mv (.tmp 38))), (some 40, some (39, true), (.ld true 10 (.tmp 13))), (some 41, some (39, true), (.ld true 10 (.tmp 12))), (some 42, some (39, true), (.mv (.tmp 11))), (some 43, some (39, true), (.call false 35 [(.tmp 42)])), (some 44, some (39, true), (.call true 34 [(.tmp 40), (.tmp 41), (.tmp 43)])), (some 45, none, (.pick (.tmp 39) (.tmp 44) (.const (.bool false)))), (some 46, none, (.mv (.tmp 45))), (some 47, some (46, true), (.ld true 10 (.tmp 14))), (some 48, some (46, true), (.ld true 10 (.tmp 12))), (some 49, some (46, true), (.mv (.tmp 2))), (some 50, some (46, true), (.call true 34 [(.tmp 47), (.tmp 48), (.tmp 49)])), (some 51, none, (.pick (.tmp 46) (.tmp 50) (.const (.bool false)))), (some 52, none, (.mv (.tmp 51))), (some 53, some (52, true), (.ld true 10 (.tmp 5))), (some 54, some (52, true), (.ld true 10 (.tmp 12))), (some 55, some (52, true), (.call true 34 [(.tmp 53), (.tmp 54), (.const (.int .u64 3))])), (some 56, none, (.pick (.tmp 52) (.tmp 55) (.const (.bool false)))), (some 57, none, (.mv (.tmp 56))), (some 58, some (57, true), (.mv (.tmp 3))), (some 59, some (57, true), (.call true 36 [(.tmp 58)])), (some 60, some (57, true), (.mv (.tmp 3))), (some 61, some (57, true), (.call true 37 [(.tmp 60)])), (some 62, some (57, true), (.eqg false 35 (.tmp 59) (.tmp 61))), (some 63, none, (.pick (.tmp 57) (.tmp 62) (.const (.bool false))))]
def t4 : List G := [(some 10, none, (.mv (.tmp 63)))]
def c : MC := (.seq (.reg r0 (some [2, 3, 4, 5, 6])) (.seq (.reg r1 (some [2, 3, 5, 6, 11])) (.seq (.reg r2 (some [2, 3, 5, 6, 11, 12, 13])) (.seq (.reg r3 (some [2, 3, 5, 6, 11, 12, 13, 14])) (.seq (.creg false false r4 t4 (some [10])) .ret)))))
def ann : Ann := [(0, (some [2, 3, 4, 5, 6], 0, [], [], [])), (1, (some [2, 3, 5, 6, 11], 0, [], [], [])), (2, (some [2, 3, 5, 6, 11, 12, 13], 0, [], [], [])), (3, (some [2, 3, 5, 6, 11, 12, 13, 14], 0, [], [], [])), (4, (some [10], 300038, [], [(0, 0), (1, 0), (2, 0), (3, 0), (4, 0), (5, 0), (6, 0), (7, 0), (8, 0), (9, 0), (10, 0), (11, 0), (12, 0), (13, 0), (14, 0), (15, 0), (16, 0), (17, 1), (18, 0), (19, 0), (20, 0), (21, 0), (22, 0), (23, 0), (24, 0), (25, 0), (26, 0), (27, 0), (28, 0), (29, 0), (30, 0), (31, 0), (32, 0), (33, 0), (34, 0), (35, 0), (36, 0), (37, 0)], []))]
theorem ok : compF Try.prog Try.f8 ann = some (64, c, [(10, none)]) := by kernel_rfl
def p1 (S : St) : Prop := cregX C false false r4 t4 (kq [10] R) S
def p2 (S : St) : Prop := ops C r3 (kq [2, 3, 5, 6, 11, 12, 13, 14] (p1 C R)) S
def p3 (S : St) : Prop := ops C r2 (kq [2, 3, 5, 6, 11, 12, 13] (p2 C R)) S
def p4 (S : St) : Prop := ops C r1 (kq [2, 3, 5, 6, 11] (p3 C R)) S
def p5 (S : St) : Prop := ops C r0 (kq [2, 3, 4, 5, 6] (p4 C R)) S
theorem s (S : St) : X C c (retK R) S = p5 C R S := by kernel_rfl
theorem E : type_of% @r4.eq_1 ∧ type_of% @t4.eq_1 ∧ type_of% @p1.eq_1 ∧ type_of% @r3.eq_1 ∧ type_of% @p2.eq_1 ∧ type_of% @r2.eq_1 ∧ type_of% @p3.eq_1 ∧ type_of% @r1.eq_1 ∧ type_of% @p4.eq_1 ∧ type_of% @r0.eq_1 ∧ type_of% @p5.eq_1 ∧ type_of% @s := ⟨@r4.eq_1, @t4.eq_1, @p1.eq_1, @r3.eq_1, @p2.eq_1, @r2.eq_1, @p3.eq_1, @r1.eq_1, @p4.eq_1, @r0.eq_1, @p5.eq_1, @s⟩
end w03_RatioForms
end Go.Proofs.Ytlanoclibdhpmaa
