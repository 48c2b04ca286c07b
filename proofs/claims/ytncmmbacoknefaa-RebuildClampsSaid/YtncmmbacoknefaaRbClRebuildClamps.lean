/- MADE BY PROGRAM (sxgen.py): the small code of some functions, points of it and their equations. -/
import Derived.Test.YtncmmbacoknefaaProg
import Derived.Test.YtncmmbacoknefaaRb2
namespace Go.Proofs.Ytncmmbacoknefaa
open Go Go.RowKit Sx
set_option linter.unusedVariables false
variable (C : Cx) (R L1 L2 L3 L4 : St → Prop)

/-! ### tscodec/tscodeclaw20.RebuildClamps -/
namespace w20_RebuildClamps
def r0 : List G := [(some 6, none, (.mv (.const (.bool false))))]
def r1 : List G := [(some 19, none, (.mv (.tmp 2))), (some 20, none, (.call false 16 [(.tmp 19)])), (some 7, none, (.mv (.tmp 20)))]
def r2 : List G := [(some 21, none, (.mv (.tmp 7))), (some 22, none, (.call false 29 [(.tmp 21)])), (some 23, none, (.mv (.tmp 7))), (some 24, none, (.call false 30 [(.tmp 23)])), (some 25, none, (.mv (.tmp 7))), (some 26, none, (.call false 31 [(.tmp 25), (.const (.int .i64 64))])), (some 27, none, (.cv .u64 (.tmp 26))), (some 28, none, (.bin .shr (.tmp 24) (.tmp 27))), (some 29, none, (.mv (.tmp 7))), (some 30, none, (.call false 17 [(.tmp 29)])), (some 8, none, (.new zR)), (none, none, (.st true 10 (.tmp 8) (.tmp 22))), (some 9, none, (.mv (.tmp 28))), (some 10, none, (.mv (.tmp 30)))]
def r3 : List G := [(some 31, none, (.mv (.tmp 0))), (some 32, none, (.mv (.tmp 1))), (some 33, none, (.mm false (.tmp 31) (.tmp 32))), (some 34, none, (.call true 20 [(.tmp 33)])), (some 35, none, (.ld true 10 (.tmp 8))), (some 36, none, (.mv (.tmp 9))), (some 37, none, (.call true 34 [(.tmp 34), (.tmp 35), (.tmp 36)])), (some 38, none, (.mv (.tmp 0))), (some 39, none, (.mv (.tmp 1))), (some 40, none, (.mm true (.tmp 38) (.tmp 39))), (some 41, none, (.call true 20 [(.tmp 40)])), (some 42, none, (.ld true 10 (.tmp 8))), (some 43, none, (.mv (.tmp 9))), (some 44, none, (.call true 34 [(.tmp 41), (.tmp 42), (.tmp 43)]))]
def t3 : List G := [(some 11, none, (.mv (.tmp 37))), (some 12, none, (.mv (.tmp 44)))]
def r4 : List G := [(some 46, none, (.mv (.tmp 0))), (some 47, none, (.call true 20 [(.tmp 46)])), (some 48, none, (.ld true 10 (.tmp 8))), (some 49, none, (.mv (.tmp 9))), (some 50, none, (.call true 40 [(.tmp 48), (.tmp 49)])), (some 51, none, (.call true 22 [(.tmp 47), (.tmp 50)])), (some 45, none, (.mv (.tmp 51))), (some 52, none, (.ex (.tmp 45) 0)), (some 53, none, (.ex (.tmp 45) 1))]
def t4 : List G := [(some 13, none, (.new zW)), (none, none, (.st true 5 (.tmp 13) (.tmp 52))), (some 14, none, (.mv (.tmp 53)))]
def r5 : List G := [(some 54, none, (.mv (.tmp 7))), (some 55, none, (.call false 32 [(.tmp 54)])), (some 15, none, (.mv (.tmp 55)))]
def r6 : List G := [(some 57, none, (.ld true 5 (.tmp 13))), (some 58, none, (.mv (.tmp 15))), (some 59, none, (.call true 20 [(.tmp 58)])), (some 60, none, (.call true 41 [(.tmp 57), (.tmp 59)])), (some 56, none, (.mv (.tmp 60))), (some 61, none, (.ex (.tmp 56) 0)), (some 62, none, (.ex (.tmp 56) 1))]
def t6 : List G := [(some 16, none, (.new zW)), (none, none, (.st true 5 (.tmp 16) (.tmp 61))), (some 17, none, (.mv (.tmp 62)))]
def r7 : List G := [(some 63, none, (.fa 0 (.tmp 16))), (none, none, (.st false 1 (.tmp 63) (.const (.bool false))))]
def r8 : List G := [(some 64, none, (.ld true 5 (.tmp 16))), (some 65, none, (.mv (.tmp 10))), (some 66, none, (.call true 20 [(.tmp 65)])), (some 67, none, (.call true 42 [(.tmp 64), (.tmp 66)])), (some 68, none, (.bin .leq (.tmp 67) (.const (.int .i64 0))))]
def t8 : List G := [(some 18, none, (.mv (.tmp 68)))]
def r9 : List G := [(some 69, none, (.call true 33 [])), (some 70, none, (.mv (.tmp 69))), (some 71, some (70, true), (.mv (.tmp 11))), (some 72, some (70, true), (.mv (.tmp 12))), (some 73, some (70, true), (.bin .leq (.tmp 71) (.tmp 72))), (some 74, none, (.pick (.tmp 70) (.tmp 73) (.const (.bool false)))), (some 75, none, (.mv (.tmp 74))), (some 76, some (75, true), (.mv (.tmp 18))), (some 77, some (75, true), (.un .not (.tmp 76))), (some 78, some (75, true), (.mv (.tmp 77))), (some 79, some (78, false), (.mv (.tmp 0))), (some 80, some (78, false), (.call true 20 [(.tmp 79)])), (some 81, some (78, false), (.ld true 10 (.tmp 8))), (some 82, some (78, false), (.mv (.tmp 9))), (some 83, some (78, false), (.call true 34 [(.tmp 80), (.tmp 81), (.tmp 82)])), (some 84, some (78, false), (.mv (.tmp 15))), (some 85, some (78, false), (.mv (.tmp 10))), (some 86, some (78, false), (.call true 21 [(.tmp 83), (.tmp 84), (.tmp 85)])), (some 87, some (75, true), (.pick (.tmp 78) (.const (.bool true)) (.tmp 86))), (some 88, none, (.pick (.tmp 75) (.tmp 87) (.const (.bool false))))]
def t9 : List G := [(some 6, none, (.mv (.tmp 88)))]
def c : MC := (.seq (.reg r0 (some [0, 1, 2])) (.seq (.reg r1 (some [0, 1, 7])) (.seq (.reg r2 (some [0, 1, 7, 8, 9, 10])) (.seq (.dreg r3 t3 (some [0, 7, 8, 9, 10, 11, 12])) (.seq (.dreg r4 t4 (some [0, 7, 8, 9, 10, 11, 12, 13])) (.seq (.reg r5 (some [0, 8, 9, 10, 11, 12, 13, 15])) (.seq (.dreg r6 t6 (some [0, 8, 9, 10, 11, 12, 15, 16])) (.seq (.reg r7 (some [0, 8, 9, 10, 11, 12, 15, 16])) (.seq (.dreg r8 t8 (some [0, 8, 9, 10, 11, 12, 15, 18])) (.seq (.dreg r9 t9 (some [6])) .ret))))))))))
def ann : Ann := [(0, (some [0, 1, 2], 0, [], [], [])), (1, (some [0, 1, 7], 0, [], [], [])), (2, (some [0, 1, 7, 8, 9, 10], 0, [], [], [])), (3, (some [0, 7, 8, 9, 10, 11, 12], 14, [], [(0, 0), (1, 0), (2, 0), (3, 0), (4, 0), (5, 0), (6, 0), (7, 0), (8, 0), (9, 0), (10, 0), (11, 0), (12, 0), (13, 0)], [])), (4, (some [0, 7, 8, 9, 10, 11, 12, 13], 10, [8], [(0, 0), (1, 0), (2, 0), (3, 0), (4, 0), (5, 0), (6, 0), (7, 0), (8, 2)], [9])), (5, (some [0, 8, 9, 10, 11, 12, 13, 15], 0, [], [], [])), (6, (some [0, 8, 9, 10, 11, 12, 15, 16], 8, [6], [(0, 0), (1, 0), (2, 0), (3, 0), (4, 0), (5, 0), (6, 2)], [7])), (7, (some [0, 8, 9, 10, 11, 12, 15, 16], 0, [], [], [])), (8, (some [0, 8, 9, 10, 11, 12, 15, 18], 5, [], [(0, 0), (1, 0), (2, 0), (3, 0), (4, 0)], [])), (9, (some [6], 20, [], [(0, 0), (1, 0), (2, 0), (3, 0), (4, 0), (5, 0), (6, 0), (7, 0), (8, 0), (9, 0), (10, 0), (11, 0), (12, 0), (13, 0), (14, 0), (15, 0), (16, 0), (17, 0), (18, 0), (19, 0)], []))]
theorem ok : compF Try.prog Try.f8 ann = some (89, c, [(6, none)]) := by kernel_rfl
def p1 (S : St) : Prop := ops C r9 (ops C t9 (kq [6] R)) S
def p2 (S : St) : Prop := ops C r8 (ops C t8 (kq [0, 8, 9, 10, 11, 12, 15, 18] (p1 C R))) S
def p3 (S : St) : Prop := ops C r7 (kq [0, 8, 9, 10, 11, 12, 15, 16] (p2 C R)) S
def p4 (S : St) : Prop := ops C r6 (ops C t6 (kq [0, 8, 9, 10, 11, 12, 15, 16] (p3 C R))) S
def p5 (S : St) : Prop := ops C r5 (kq [0, 8, 9, 10, 11, 12, 13, 15] (p4 C R)) S
def p6 (S : St) : Prop := ops C r4 (ops C t4 (kq [0, 7, 8, 9, 10, 11, 12, 13] (p5 C R))) S
def p7 (S : St) : Prop := ops C r3 (ops C t3 (kq [0, 7, 8, 9, 10, 11, 12] (p6 C R))) S
def p8 (S : St) : Prop := ops C r2 (kq [0, 1, 7, 8, 9, 10] (p7 C R)) S
def p9 (S : St) : Prop := ops C r1 (kq [0, 1, 7] (p8 C R)) S
def p10 (S : St) : Prop := ops C r0 (kq [0, 1, 2] (p9 C R)) S
theorem s (S : St) : X C c (retK R) S = p10 C R S := by kernel_rfl
theorem E : type_of% @r9.eq_1 ∧ type_of% @t9.eq_1 ∧ type_of% @p1.eq_1 ∧ type_of% @r8.eq_1 ∧ type_of% @t8.eq_1 ∧ type_of% @p2.eq_1 ∧ type_of% @r7.eq_1 ∧ type_of% @p3.eq_1 ∧ type_of% @r6.eq_1 ∧ type_of% @t6.eq_1 ∧ type_of% @p4.eq_1 ∧ type_of% @r5.eq_1 ∧ type_of% @p5.eq_1 ∧ type_of% @r4.eq_1 ∧ type_of% @t4.eq_1 ∧ type_of% @p6.eq_1 ∧ type_of% @r3.eq_1 ∧ type_of% @t3.eq_1 ∧ type_of% @p7.eq_1 ∧ type_of% @r2.eq_1 ∧ type_of% @p8.eq_1 ∧ type_of% @r1.eq_1 ∧ type_of% @p9.eq_1 ∧ type_of% @r0.eq_1 ∧ type_of% @p10.eq_1 ∧ type_of% @s := ⟨@r9.eq_1, @t9.eq_1, @p1.eq_1, @r8.eq_1, @t8.eq_1, @p2.eq_1, @r7.eq_1, @p3.eq_1, @r6.eq_1, @t6.eq_1, @p4.eq_1, @r5.eq_1, @p5.eq_1, @r4.eq_1, @t4.eq_1, @p6.eq_1, @r3.eq_1, @t3.eq_1, @p7.eq_1, @r2.eq_1, @p8.eq_1, @r1.eq_1, @p9.eq_1, @r0.eq_1, @p10.eq_1, @s⟩
end w20_RebuildClamps
end Go.Proofs.Ytncmmbacoknefaa
