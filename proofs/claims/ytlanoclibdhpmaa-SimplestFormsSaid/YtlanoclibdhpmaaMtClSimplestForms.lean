/- MADE BY PROGRAM (sxgen.py): the small code of some functions, points of it and their equations. -/
import Derived.Test.YtlanoclibdhpmaaProg
import Derived.Test.YtlanoclibdhpmaaMt2
namespace Go.Proofs.Ytlanoclibdhpmaa
open Go Go.RowKit Sx
set_option linter.unusedVariables false
variable (C : Cx) (R L1 L2 L3 L4 : St → Prop)

/-! ### tscodec/tscodeclaw04.SimplestForms -/
namespace w04_SimplestForms
def r0 : List G := [(some 3, none, (.box true 10 (.tmp 0))), (some 4, none, (.box true 10 (.tmp 1))), (some 6, none, (.mv (.const (.bool false))))]
def r1 : List G := [(some 10, none, (.mv (.tmp 2))), (some 11, none, (.call false 14 [(.tmp 10)])), (some 7, none, (.mv (.tmp 11)))]
def r2 : List G := [(some 13, none, (.mv (.tmp 7))), (some 14, none, (.call false 38 [(.tmp 13)])), (some 12, none, (.mv (.tmp 14))), (some 15, none, (.ex (.tmp 12) 0)), (some 16, none, (.ex (.tmp 12) 1)), (some 8, none, (.new zR)), (some 9, none, (.new zR)), (none, none, (.st true 10 (.tmp 8) (.tmp 15))), (none, none, (.st true 10 (.tmp 9) (.tmp 16)))]
def r3 : List G := [(some 17, none, (.call false 39 [])), (some 18, none, (.mv (.tmp 17))), (some 19, some (18, true), (.ld true 10 (.tmp 3))), (some 20, some (18, true), (.ld true 10 (.tmp 4))), (some 21, some (18, true), (.call false 40 [(.tmp 19), (.tmp 20)])), (some 22, none, (.pick (.tmp 18) (.tmp 21) (.const (.bool false)))), (some 23, none, (.mv (.tmp 22))), (some 24, some (23, true), (.ld true 10 (.tmp 8))), (some 25, some (23, true), (.ld true 10 (.tmp 9))), (some 26, some (23, true), (.call false 40 [(.tmp 24), (.tmp 25)])), (some 27, none, (.pick (.tmp 23) (.tmp 26) (.const (.bool false)))), (some 28, none, (.mv (.tmp 27))), (some 29, some (28, true), (.ld true 10 (.tmp 9))), (some 30, some (28, true), (.ld true 10 (.tmp 8))), (some 31, some (28, true), (.call false 40 [(.tmp 29), (.tmp 30)])), (some 32, none, (.pick (.tmp 28) (.tmp 31) (.const (.bool false)))), (some 33, none, (.mv (.tmp 32))), (some 34, some (33, true), (.ld true 10 (.tmp 8))), (some 35, some (33, true), (.ld true 10 (.tmp 8))), (some 36, some (33, true), (.call false 40 [(.tmp 34), (.tmp 35)])), (some 37, none, (.pick (.tmp 33) (.tmp 36) (.const (.bool false)))), (some 38, none, (.mv (.tmp 37))), (some 39, some (38, true), (.ld true 10 (.tmp 3))), (some 40, some (38, true), (.ld true 10 (.tmp 8))), (some 41, some (38, true), (.call false 40 [(.tmp 39), (.tmp 40)])), (some 42, none, (.pick (.tmp 38) (.tmp 41) (.const (.bool false)))), (some 6, none, (.mv (.tmp 42)))]
def c : MC := (.seq (.reg r0 (some [2, 3, 4])) (.seq (.reg r1 (some [3, 4, 7])) (.seq (.reg r2 (some [3, 4, 8, 9])) (.seq (.reg r3 (some [6])) .ret))))
def ann : Ann := [(0, (some [2, 3, 4], 0, [], [], [])), (1, (some [3, 4, 7], 0, [], [], [])), (2, (some [3, 4, 8, 9], 0, [], [], [])), (3, (some [6], 0, [], [], []))]
theorem ok : compF Try.prog Try.f9 ann = some (43, c, [(6, none)]) := by kernel_rfl
def p1 (S : St) : Prop := ops C r3 (kq [6] R) S
def p2 (S : St) : Prop := ops C r2 (kq [3, 4, 8, 9] (p1 C R)) S
def p3 (S : St) : Prop := ops C r1 (kq [3, 4, 7] (p2 C R)) S
def p4 (S : St) : Prop := ops C r0 (kq [2, 3, 4] (p3 C R)) S
theorem s (S : St) : X C c (retK R) S = p4 C R S := by kernel_rfl
theorem E : type_of% @r3.eq_1 ∧ type_of% @p1.eq_1 ∧ type_of% @r2.eq_1 ∧ type_of% @p2.eq_1 ∧ type_of% @r1.eq_1 ∧ type_of% @p3.eq_1 ∧ type_of% @r0.eq_1 ∧ type_of% @p4.eq_1 ∧ type_of% @s := ⟨@r3.eq_1, @p1.eq_1, @r2.eq_1, @p2.eq_1, @r1.eq_1, @p3.eq_1, @r0.eq_1, @p4.eq_1, @s⟩
end w04_SimplestForms
end Go.Proofs.Ytlanoclibdhpmaa
