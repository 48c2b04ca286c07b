/- MADE BY PROGRAM (sxgen.py): the small code of some functions, points of it and their equations. -/
import Derived.Test.YtncmmbacoknefaaProg
import Derived.Test.YtncmmbacoknefaaCo2
namespace Go.Proofs.Ytncmmbacoknefaa
open Go Go.RowKit Sx
set_option linter.unusedVariables false
variable (C : Cx) (R L1 L2 L3 L4 : St → Prop)

/-! ### tscodec/tscodeclaw13.ConeChooses -/
namespace w13_ConeChooses
def r0 : List G := [(some 2, none, (.mv (.const (.bool false))))]
def r1 : List G := [(some 7, none, (.mv (.tmp 0))), (some 8, none, (.call false 16 [(.tmp 7)])), (some 3, none, (.mv (.tmp 8)))]
def r2 : List G := [(some 9, none, (.mv (.tmp 3))), (some 10, none, (.call false 47 [(.tmp 9)])), (some 4, none, (.new [(.bool false), (.bool false), (.int .u64 0), (.int .u64 0), (.int .u64 0), (.int .u64 0), (.bool false), (.int .u64 0), (.int .u64 0), (.int .u64 0), (.int .u64 0), (.bool false), (.int .u64 0), (.int .u64 0), (.int .u64 0), (.int .u64 0), (.bool false), (.int .u64 0), (.int .u64 0), (.int .u64 0), (.int .u64 0)])), (none, none, (.st true 21 (.tmp 4) (.tmp 10)))]
def r3 : List G := [(some 11, none, (.ld true 21 (.tmp 4))), (some 12, none, (.call false 56 [(.tmp 11)])), (some 13, none, (.mv (.tmp 3))), (some 14, none, (.call false 29 [(.tmp 13)])), (some 5, none, (.new zR)), (some 6, none, (.new zR)), (none, none, (.st true 10 (.tmp 5) (.tmp 12))), (none, none, (.st true 10 (.tmp 6) (.tmp 14)))]
def r4 : List G := [(some 15, none, (.call false 48 [])), (some 16, none, (.mv (.tmp 15))), (some 17, some (16, true), (.ld true 21 (.tmp 4))), (some 18, some (16, true), (.ld true 10 (.tmp 5))), (some 19, some (16, true), (.call false 59 [(.tmp 17), (.tmp 18)])), (some 20, none, (.pick (.tmp 16) (.tmp 19) (.const (.bool false)))), (some 21, none, (.mv (.tmp 20))), (some 22, some (21, true), (.ld true 21 (.tmp 4))), (some 23, some (21, true), (.ld true 10 (.tmp 6))), (some 24, some (21, true), (.call false 59 [(.tmp 22), (.tmp 23)])), (some 25, some (21, true), (.un .not (.tmp 24))), (some 26, some (21, true), (.mv (.tmp 25))), (some 27, some (26, false), (.ld true 10 (.tmp 6))), (some 28, some (26, false), (.ld true 10 (.tmp 5))), (some 29, some (26, false), (.call false 61 [(.tmp 27), (.tmp 28)])), (some 30, some (26, false), (.un .not (.tmp 29))), (some 31, some (21, true), (.pick (.tmp 26) (.const (.bool true)) (.tmp 30))), (some 32, none, (.pick (.tmp 21) (.tmp 31) (.const (.bool false)))), (some 2, none, (.mv (.tmp 32)))]
def c : MC := (.seq (.reg r0 (some [0])) (.seq (.reg r1 (some [3])) (.seq (.reg r2 (some [3, 4])) (.seq (.reg r3 (some [4, 5, 6])) (.seq (.reg r4 (some [2])) .ret)))))
def ann : Ann := [(0, (some [0], 0, [], [], [])), (1, (some [3], 0, [], [], [])), (2, (some [3, 4], 0, [], [], [])), (3, (some [4, 5, 6], 0, [], [], [])), (4, (some [2], 0, [], [], []))]
theorem ok : compF Try.prog Try.f14 ann = some (33, c, [(2, none)]) := by kernel_rfl
def p1 (S : St) : Prop := ops C r4 (kq [2] R) S
def p2 (S : St) : Prop := ops C r3 (kq [4, 5, 6] (p1 C R)) S
def p3 (S : St) : Prop := ops C r2 (kq [3, 4] (p2 C R)) S
def p4 (S : St) : Prop := ops C r1 (kq [3] (p3 C R)) S
def p5 (S : St) : Prop := ops C r0 (kq [0] (p4 C R)) S
theorem s (S : St) : X C c (retK R) S = p5 C R S := by kernel_rfl
theorem E : type_of% @r4.eq_1 ∧ type_of% @p1.eq_1 ∧ type_of% @r3.eq_1 ∧ type_of% @p2.eq_1 ∧ type_of% @r2.eq_1 ∧ type_of% @p3.eq_1 ∧ type_of% @r1.eq_1 ∧ type_of% @p4.eq_1 ∧ type_of% @r0.eq_1 ∧ type_of% @p5.eq_1 ∧ type_of% @s := ⟨@r4.eq_1, @p1.eq_1, @r3.eq_1, @p2.eq_1, @r2.eq_1, @p3.eq_1, @r1.eq_1, @p4.eq_1, @r0.eq_1, @p5.eq_1, @s⟩
end w13_ConeChooses
end Go.Proofs.Ytncmmbacoknefaa
