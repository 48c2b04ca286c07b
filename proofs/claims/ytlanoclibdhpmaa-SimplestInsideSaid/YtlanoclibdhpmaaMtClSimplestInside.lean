/- MADE BY PROGRAM (sxgen.py): the small code of some functions, points of it and their equations. -/
import Derived.Test.YtlanoclibdhpmaaProg
import Derived.Test.YtlanoclibdhpmaaMt2
namespace Go.Proofs.Ytlanoclibdhpmaa
open Go Go.RowKit Sx
set_option linter.unusedVariables false
variable (C : Cx) (R L1 L2 L3 L4 : St → Prop)

/-! ### tscodec/tscodeclaw04.SimplestInside -/
namespace w04_SimplestInside
def r0 : List G := [(some 2, none, (.mv (.const (.bool false))))]
def r1 : List G := [(some 8, none, (.mv (.tmp 0))), (some 9, none, (.call false 14 [(.tmp 8)])), (some 10, none, (.call false 38 [(.tmp 9)])), (some 7, none, (.mv (.tmp 10))), (some 11, none, (.ex (.tmp 7) 0)), (some 12, none, (.ex (.tmp 7) 1)), (some 3, none, (.new zR)), (some 4, none, (.new zR)), (none, none, (.st true 10 (.tmp 3) (.tmp 11))), (none, none, (.st true 10 (.tmp 4) (.tmp 12)))]
def r2 : List G := [(some 14, none, (.ld true 10 (.tmp 3))), (some 15, none, (.ld true 10 (.tmp 4))), (some 16, none, (.call false 41 [(.tmp 14), (.tmp 15)])), (some 13, none, (.mv (.tmp 16))), (some 17, none, (.ex (.tmp 13) 0)), (some 18, none, (.ex (.tmp 13) 1)), (some 5, none, (.new zR)), (none, none, (.st true 10 (.tmp 5) (.tmp 17))), (some 6, none, (.mv (.tmp 18)))]
def r3 : List G := [(some 19, none, (.call false 39 [])), (some 20, none, (.mv (.tmp 19))), (some 21, some (20, true), (.mv (.tmp 6))), (some 22, none, (.pick (.tmp 20) (.tmp 21) (.const (.bool false)))), (some 23, none, (.mv (.tmp 22))), (some 24, some (23, true), (.ld true 10 (.tmp 5))), (some 25, some (23, true), (.call false 42 [(.tmp 24)])), (some 26, none, (.pick (.tmp 23) (.tmp 25) (.const (.bool false)))), (some 27, none, (.mv (.tmp 26))), (some 28, some (27, true), (.ld true 10 (.tmp 3))), (some 29, some (27, true), (.ld true 10 (.tmp 5))), (some 30, some (27, true), (.call false 28 [(.tmp 28), (.tmp 29)])), (some 31, some (27, true), (.bin .leq (.tmp 30) (.const (.int .i64 0)))), (some 32, none, (.pick (.tmp 27) (.tmp 31) (.const (.bool false)))), (some 33, none, (.mv (.tmp 32))), (some 34, some (33, true), (.ld true 10 (.tmp 5))), (some 35, some (33, true), (.ld true 10 (.tmp 4))), (some 36, some (33, true), (.call false 28 [(.tmp 34), (.tmp 35)])), (some 37, some (33, true), (.bin .leq (.tmp 36) (.const (.int .i64 0)))), (some 38, none, (.pick (.tmp 33) (.tmp 37) (.const (.bool false)))), (some 39, none, (.mv (.tmp 38))), (some 40, some (39, true), (.ld true 10 (.tmp 3))), (some 41, some (39, true), (.ld true 10 (.tmp 5))), (some 42, some (39, true), (.call false 43 [(.tmp 40), (.tmp 41)])), (some 43, some (39, true), (.un .not (.tmp 42))), (some 44, none, (.pick (.tmp 39) (.tmp 43) (.const (.bool false)))), (some 45, none, (.mv (.tmp 44))), (some 46, some (45, true), (.ld true 10 (.tmp 4))), (some 47, some (45, true), (.ld true 10 (.tmp 5))), (some 48, some (45, true), (.call false 43 [(.tmp 46), (.tmp 47)])), (some 49, some (45, true), (.un .not (.tmp 48))), (some 50, none, (.pick (.tmp 45) (.tmp 49) (.const (.bool false)))), (some 2, none, (.mv (.tmp 50)))]
def c : MC := (.seq (.reg r0 (some [0])) (.seq (.reg r1 (some [3, 4])) (.seq (.reg r2 (some [3, 4, 5, 6])) (.seq (.reg r3 (some [2])) .ret))))
def ann : Ann := [(0, (some [0], 0, [], [], [])), (1, (some [3, 4], 0, [], [], [])), (2, (some [3, 4, 5, 6], 0, [], [], [])), (3, (some [2], 0, [], [], []))]
theorem ok : compF Try.prog Try.f10 ann = some (51, c, [(2, none)]) := by kernel_rfl
def p1 (S : St) : Prop := ops C r3 (kq [2] R) S
def p2 (S : St) : Prop := ops C r2 (kq [3, 4, 5, 6] (p1 C R)) S
def p3 (S : St) : Prop := ops C r1 (kq [3, 4] (p2 C R)) S
def p4 (S : St) : Prop := ops C r0 (kq [0] (p3 C R)) S
theorem s (S : St) : X C c (retK R) S = p4 C R S := by kernel_rfl
theorem E : type_of% @r3.eq_1 ∧ type_of% @p1.eq_1 ∧ type_of% @r2.eq_1 ∧ type_of% @p2.eq_1 ∧ type_of% @r1.eq_1 ∧ type_of% @p3.eq_1 ∧ type_of% @r0.eq_1 ∧ type_of% @p4.eq_1 ∧ type_of% @s := ⟨@r3.eq_1, @p1.eq_1, @r2.eq_1, @p2.eq_1, @r1.eq_1, @p3.eq_1, @r0.eq_1, @p4.eq_1, @s⟩
end w04_SimplestInside
end Go.Proofs.Ytlanoclibdhpmaa
