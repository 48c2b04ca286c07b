/- Several texts in one: CdW, RefA, WideM, RefB, WideC. -/
import Derived.Test.YtncmmbacoknefaaProg
import Derived.Test.YtncmmbacoknefaaRows
import Derived.WalkKit
import Derived.ProofKit
import Derived.WalkLawsBesides
import Derived.WalkSpells
import Derived.RegionTactic
import Derived.ChangeAlike
import Derived.BigRegion
import Derived.Deep.QuietTactic
import Derived.BigQuiet
import Derived.Outline
import Derived.Handy
import Derived.Laws.IdiomCopy
import Derived.Deep.DeepCutAuto
import Derived.StillTailTactics
import Derived.Test.YtncmmbacoknefaaRb1
import Derived.Test.YtncmmbacoknefaaRb2

/- CdW: MADE BY PROGRAM (sxgen.py): the small code of some functions, points of it and their equations. -/
namespace Go.Proofs.Ytncmmbacoknefaa
open Go Go.RowKit Sx
set_option linter.unusedVariables false
variable (C : Cx) (R L1 L2 L3 L4 : St → Prop)
namespace wide_length
def r0 : List G := [(some 1, none, (.box true 4 (.tmp 0))), (some 2, none, (.mv (.const (.int .i64 0))))]
def r1 : List G := [(some 3, none, (.mv (.const (.int .i64 3))))]
def r2 : List G := [(some 4, none, (.mv (.tmp 3))), (some 5, none, (.bin .geq (.tmp 4) (.const (.int .i64 0))))]
def r4 : List G := [(some 8, none, (.mv (.tmp 3))), (some 9, none, (.ia 4 1 (.tmp 1) (.tmp 8))), (some 10, none, (.ld false 1 (.tmp 9))), (some 11, none, (.bin .neq (.tmp 10) (.const (.int .u64 0))))]
def r5 : List G := [(some 12, none, (.mv (.tmp 3))), (some 13, none, (.bin .mul (.const (.int .i64 64)) (.tmp 12))), (some 14, none, (.mv (.tmp 3))), (some 15, none, (.ia 4 1 (.tmp 1) (.tmp 14))), (some 16, none, (.ld false 1 (.tmp 15))), (some 17, none, (.call false 169 [(.tmp 16)])), (some 18, none, (.bin .add (.tmp 13) (.tmp 17))), (some 2, none, (.mv (.tmp 18)))]
def r3 : List G := [(some 6, none, (.mv (.tmp 3))), (some 7, none, (.bin .sub (.tmp 6) (.const (.int .i64 1)))), (some 3, none, (.mv (.tmp 7)))]
def r6 : List G := [(some 2, none, (.mv (.const (.int .i64 0))))]
def c : MC := (.seq (.reg r0 (some [1])) (.seq (.seq (.reg r1 (some [1, 3])) (.block 0 (.loop (.seq (.seq (.reg r2 (some [1, 3, 5])) (.cond (.tmp 5) .skip (.exit 0))) (.seq (.block 1 (.seq (.reg r4 (some [1, 3, 11])) (.cond (.tmp 11) (.seq (.reg r5 (some [2])) .ret) .skip))) (.reg r3 (some [1, 3]))))))) (.seq (.reg r6 (some [2])) .ret)))
def ann : Ann := [(0, (some [1], 0, [], [], [])), (1, (some [1, 3], 0, [], [], [])), (2, (some [1, 3, 5], 0, [], [], [])), (3, (some [1, 3], 0, [], [], [])), (4, (some [1, 3, 11], 0, [], [], [])), (5, (some [2], 0, [], [], [])), (6, (some [2], 0, [], [], []))]
theorem ok : compF Try.prog Try.f183 ann = some (19, c, [(2, none)]) := by kernel_rfl
def p1 (S : St) : Prop := ops C r6 (kq [2] R) S
def p3 (S : St) : Prop := ops C r3 (kq [1, 3] L1) S
def p5 (S : St) : Prop := ops C r5 (kq [2] R) S
def p4 (S : St) : Prop := condX (S.ev (.tmp 11)) (p5 C R) (p3 C L1) S
def p6 (S : St) : Prop := ops C r4 (kq [1, 3, 11] (p4 C R L1)) S
def p7 (S : St) : Prop := condX (S.ev (.tmp 5)) (p6 C R L1) (p1 C R) S
def p8 (S : St) : Prop := ops C r2 (kq [1, 3, 5] (p7 C R L1)) S
def p2 (S : St) : Prop := LX C (fun L1 => (p8 C R L1)) S
theorem p2_l (S : St) : p2 C R S = LX C (fun L1 => (p8 C R L1)) S := rfl
def p9 (S : St) : Prop := ops C r1 (kq [1, 3] (p2 C R)) S
def p10 (S : St) : Prop := ops C r0 (kq [1] (p9 C R)) S
theorem s (S : St) : X C c (retK R) S = p10 C R S := by kernel_rfl
theorem E : type_of% @r6.eq_1 ∧ type_of% @p1.eq_1 ∧ type_of% @r3.eq_1 ∧ type_of% @p3.eq_1 ∧ type_of% @r5.eq_1 ∧ type_of% @p5.eq_1 ∧ type_of% @p4.eq_1 ∧ type_of% @r4.eq_1 ∧ type_of% @p6.eq_1 ∧ type_of% @p7.eq_1 ∧ type_of% @r2.eq_1 ∧ type_of% @p8.eq_1 ∧ type_of% @r1.eq_1 ∧ type_of% @p9.eq_1 ∧ type_of% @r0.eq_1 ∧ type_of% @p10.eq_1 ∧ type_of% @s := ⟨@r6.eq_1, @p1.eq_1, @r3.eq_1, @p3.eq_1, @r5.eq_1, @p5.eq_1, @p4.eq_1, @r4.eq_1, @p6.eq_1, @p7.eq_1, @r2.eq_1, @p8.eq_1, @r1.eq_1, @p9.eq_1, @r0.eq_1, @p10.eq_1, @s⟩
end wide_length
namespace wide_left
def r0 : List G := [(some 2, none, (.box true 4 (.tmp 0))), (some 4, none, (.new [(.int .u64 0), (.int .u64 0), (.int .u64 0), (.int .u64 0)]))]
def r1 : List G := [(some 8, none, (.mv (.tmp 1))), (some 9, none, (.bin .quo (.tmp 8) (.const (.int .i64 64)))), (some 10, none, (.mv (.tmp 1))), (some 11, none, (.bin .rem (.tmp 10) (.const (.int .i64 64)))), (some 5, none, (.mv (.tmp 9))), (some 6, none, (.mv (.tmp 11)))]
def r2 : List G := [(some 12, none, (.mv (.tmp 5))), (some 7, none, (.mv (.tmp 12)))]
def r3 : List G := [(some 13, none, (.mv (.tmp 7))), (some 14, none, (.bin .lss (.tmp 13) (.const (.int .i64 4))))]
def r5 : List G := [(some 17, none, (.mv (.tmp 7))), (some 18, none, (.mv (.tmp 7))), (some 19, none, (.mv (.tmp 5))), (some 20, none, (.bin .sub (.tmp 18) (.tmp 19))), (some 21, none, (.ia 4 1 (.tmp 2) (.tmp 20))), (some 22, none, (.ld false 1 (.tmp 21))), (some 23, none, (.mv (.tmp 6))), (some 24, none, (.bin .shl (.tmp 22) (.tmp 23))), (some 25, none, (.ia 4 1 (.tmp 4) (.tmp 17))), (none, none, (.st false 1 (.tmp 25) (.tmp 24)))]
def r6 : List G := [(some 26, none, (.mv (.tmp 6))), (some 27, none, (.bin .gtr (.tmp 26) (.const (.int .i64 0)))), (some 28, none, (.mv (.tmp 27))), (some 29, some (28, true), (.mv (.tmp 7))), (some 30, some (28, true), (.mv (.tmp 5))), (some 31, some (28, true), (.bin .gtr (.tmp 29) (.tmp 30))), (some 32, none, (.pick (.tmp 28) (.tmp 31) (.const (.bool false))))]
def r7 : List G := [(some 33, none, (.mv (.tmp 7))), (some 34, none, (.ia 4 1 (.tmp 4) (.tmp 33))), (some 35, none, (.ld false 1 (.tmp 34))), (some 36, none, (.mv (.tmp 7))), (some 37, none, (.mv (.tmp 5))), (some 38, none, (.bin .sub (.tmp 36) (.tmp 37))), (some 39, none, (.bin .sub (.tmp 38) (.const (.int .i64 1)))), (some 40, none, (.ia 4 1 (.tmp 2) (.tmp 39))), (some 41, none, (.ld false 1 (.tmp 40))), (some 42, none, (.mv (.tmp 6))), (some 43, none, (.bin .sub (.const (.int .i64 64)) (.tmp 42))), (some 44, none, (.bin .shr (.tmp 41) (.tmp 43))), (some 45, none, (.bin .or (.tmp 35) (.tmp 44))), (some 46, none, (.ia 4 1 (.tmp 4) (.tmp 33)))]
def t7 : List G := [(none, none, (.st false 1 (.tmp 46) (.tmp 45)))]
def r4 : List G := [(some 15, none, (.mv (.tmp 7))), (some 16, none, (.bin .add (.tmp 15) (.const (.int .i64 1)))), (some 7, none, (.mv (.tmp 16)))]
def r8 : List G := [(some 47, none, (.ld true 4 (.tmp 4))), (none, none, (.st true 4 (.tmp 4) (.tmp 47)))]
def c : MC := (.seq (.reg r0 (some [1, 2, 4])) (.seq (.reg r1 (some [2, 4, 5, 6])) (.seq (.seq (.reg r2 (some [2, 4, 5, 6, 7])) (.block 0 (.loop (.seq (.seq (.reg r3 (some [2, 4, 5, 6, 7, 14])) (.cond (.tmp 14) .skip (.exit 0))) (.seq (.block 1 (.seq (.reg r5 (some [2, 4, 5, 6, 7])) (.seq (.reg r6 (some [2, 4, 5, 6, 7, 32])) (.cond (.tmp 32) (.dreg r7 t7 (some [2, 4, 5, 6, 7])) .skip)))) (.reg r4 (some [2, 4, 5, 6, 7]))))))) (.seq (.reg r8 (some [4])) .ret))))
def ann : Ann := [(0, (some [1, 2, 4], 0, [], [], [])), (1, (some [2, 4, 5, 6], 0, [], [], [])), (2, (some [2, 4, 5, 6, 7], 0, [], [], [])), (3, (some [2, 4, 5, 6, 7, 14], 0, [], [], [])), (4, (some [2, 4, 5, 6, 7], 0, [], [], [])), (5, (some [2, 4, 5, 6, 7], 0, [], [], [])), (6, (some [2, 4, 5, 6, 7, 32], 0, [], [], [])), (7, (some [2, 4, 5, 6, 7], 14, [], [(0, 0), (1, 0), (2, 0), (3, 0), (4, 0), (5, 0), (6, 0), (7, 0), (8, 0), (9, 0), (10, 0), (11, 0), (12, 0), (13, 0)], [])), (8, (some [4], 0, [], [], []))]
theorem ok : compF Try.prog Try.f184 ann = some (48, c, [(4, some (true, 4))]) := by kernel_rfl
def p1 (S : St) : Prop := ops C r8 (kq [4] R) S
def p3 (S : St) : Prop := ops C r4 (kq [2, 4, 5, 6, 7] L1) S
def p5 (S : St) : Prop := ops C r7 (ops C t7 (kq [2, 4, 5, 6, 7] (p3 C L1))) S
def p4 (S : St) : Prop := condX (S.ev (.tmp 32)) (p5 C L1) (p3 C L1) S
def p6 (S : St) : Prop := ops C r6 (kq [2, 4, 5, 6, 7, 32] (p4 C L1)) S
def p7 (S : St) : Prop := ops C r5 (kq [2, 4, 5, 6, 7] (p6 C L1)) S
def p8 (S : St) : Prop := condX (S.ev (.tmp 14)) (p7 C L1) (p1 C R) S
def p9 (S : St) : Prop := ops C r3 (kq [2, 4, 5, 6, 7, 14] (p8 C R L1)) S
def p2 (S : St) : Prop := LX C (fun L1 => (p9 C R L1)) S
theorem p2_l (S : St) : p2 C R S = LX C (fun L1 => (p9 C R L1)) S := rfl
def p10 (S : St) : Prop := ops C r2 (kq [2, 4, 5, 6, 7] (p2 C R)) S
def p11 (S : St) : Prop := ops C r1 (kq [2, 4, 5, 6] (p10 C R)) S
def p12 (S : St) : Prop := ops C r0 (kq [1, 2, 4] (p11 C R)) S
theorem s (S : St) : X C c (retK R) S = p12 C R S := by kernel_rfl
theorem E : type_of% @r8.eq_1 ∧ type_of% @p1.eq_1 ∧ type_of% @r4.eq_1 ∧ type_of% @p3.eq_1 ∧ type_of% @r7.eq_1 ∧ type_of% @t7.eq_1 ∧ type_of% @p5.eq_1 ∧ type_of% @p4.eq_1 ∧ type_of% @r6.eq_1 ∧ type_of% @p6.eq_1 ∧ type_of% @r5.eq_1 ∧ type_of% @p7.eq_1 ∧ type_of% @p8.eq_1 ∧ type_of% @r3.eq_1 ∧ type_of% @p9.eq_1 ∧ type_of% @r2.eq_1 ∧ type_of% @p10.eq_1 ∧ type_of% @r1.eq_1 ∧ type_of% @p11.eq_1 ∧ type_of% @r0.eq_1 ∧ type_of% @p12.eq_1 ∧ type_of% @s := ⟨@r8.eq_1, @p1.eq_1, @r4.eq_1, @p3.eq_1, @r7.eq_1, @t7.eq_1, @p5.eq_1, @p4.eq_1, @r6.eq_1, @p6.eq_1, @r5.eq_1, @p7.eq_1, @p8.eq_1, @r3.eq_1, @p9.eq_1, @r2.eq_1, @p10.eq_1, @r1.eq_1, @p11.eq_1, @r0.eq_1, @p12.eq_1, @s⟩
end wide_left
namespace wide_halved
def r0 : List G := [(some 1, none, (.box true 4 (.tmp 0))), (some 2, none, (.new [(.int .u64 0), (.int .u64 0), (.int .u64 0), (.int .u64 0)]))]
def r1 : List G := [(some 4, none, (.mv (.const (.int .i64 0))))]
def r2 : List G := [(some 5, none, (.bin .lss (.tmp 4) (.const (.int .i64 4))))]
def r3 : List G := [(some 6, none, (.mv (.tmp 4))), (some 3, none, (.mv (.tmp 6)))]
def r4 : List G := [(some 7, none, (.mv (.tmp 3))), (some 8, none, (.mv (.tmp 3))), (some 9, none, (.ia 4 1 (.tmp 1) (.tmp 8))), (some 10, none, (.ld false 1 (.tmp 9))), (some 11, none, (.bin .shr (.tmp 10) (.const (.int .u64 1)))), (some 12, none, (.ia 4 1 (.tmp 2) (.tmp 7))), (none, none, (.st false 1 (.tmp 12) (.tmp 11)))]
def r5 : List G := [(some 13, none, (.mv (.tmp 3))), (some 14, none, (.bin .lss (.tmp 13) (.const (.int .i64 3))))]
def r6 : List G := [(some 15, none, (.mv (.tmp 3))), (some 16, none, (.ia 4 1 (.tmp 2) (.tmp 15))), (some 17, none, (.ld false 1 (.tmp 16))), (some 18, none, (.mv (.tmp 3))), (some 19, none, (.bin .add (.tmp 18) (.const (.int .i64 1)))), (some 20, none, (.ia 4 1 (.tmp 1) (.tmp 19))), (some 21, none, (.ld false 1 (.tmp 20))), (some 22, none, (.bin .shl (.tmp 21) (.const (.int .u64 63)))), (some 23, none, (.bin .or (.tmp 17) (.tmp 22))), (some 24, none, (.ia 4 1 (.tmp 2) (.tmp 15)))]
def t6 : List G := [(none, none, (.st false 1 (.tmp 24) (.tmp 23)))]
def r7 : List G := [(some 25, none, (.bin .add (.tmp 4) (.const (.int .i64 1)))), (some 4, none, (.mv (.tmp 25)))]
def r8 : List G := [(some 26, none, (.ld true 4 (.tmp 2))), (none, none, (.st true 4 (.tmp 2) (.tmp 26)))]
def c : MC := (.seq (.reg r0 (some [1, 2])) (.seq (.seq (.reg r1 (some [1, 2, 4])) (.block 0 (.loop (.seq (.reg r2 (some [1, 2, 4, 5])) (.seq (.cond (.tmp 5) .skip (.exit 0)) (.seq (.block 1 (.seq (.reg r3 (some [1, 2, 3, 4])) (.seq (.reg r4 (some [1, 2, 3, 4])) (.seq (.reg r5 (some [1, 2, 3, 4, 14])) (.cond (.tmp 14) (.dreg r6 t6 (some [1, 2, 4])) .skip))))) (.reg r7 (some [1, 2, 4])))))))) (.seq (.reg r8 (some [2])) .ret)))
def ann : Ann := [(0, (some [1, 2], 0, [], [], [])), (1, (some [1, 2, 4], 0, [], [], [])), (2, (some [1, 2, 4, 5], 0, [], [], [])), (3, (some [1, 2, 3, 4], 0, [], [], [])), (4, (some [1, 2, 3, 4], 0, [], [], [])), (5, (some [1, 2, 3, 4, 14], 0, [], [], [])), (6, (some [1, 2, 4], 10, [], [(0, 0), (1, 0), (2, 0), (3, 0), (4, 0), (5, 0), (6, 0), (7, 0), (8, 0), (9, 0)], [])), (7, (some [1, 2, 4], 0, [], [], [])), (8, (some [2], 0, [], [], []))]
theorem ok : compF Try.prog Try.f185 ann = some (27, c, [(2, some (true, 4))]) := by kernel_rfl
def p1 (S : St) : Prop := ops C r8 (kq [2] R) S
def p3 (S : St) : Prop := ops C r7 (kq [1, 2, 4] L1) S
def p5 (S : St) : Prop := ops C r6 (ops C t6 (kq [1, 2, 4] (p3 C L1))) S
def p4 (S : St) : Prop := condX (S.ev (.tmp 14)) (p5 C L1) (p3 C L1) S
def p6 (S : St) : Prop := ops C r5 (kq [1, 2, 3, 4, 14] (p4 C L1)) S
def p7 (S : St) : Prop := ops C r4 (kq [1, 2, 3, 4] (p6 C L1)) S
def p8 (S : St) : Prop := ops C r3 (kq [1, 2, 3, 4] (p7 C L1)) S
def p9 (S : St) : Prop := condX (S.ev (.tmp 5)) (p8 C L1) (p1 C R) S
def p10 (S : St) : Prop := ops C r2 (kq [1, 2, 4, 5] (p9 C R L1)) S
def p2 (S : St) : Prop := LX C (fun L1 => (p10 C R L1)) S
theorem p2_l (S : St) : p2 C R S = LX C (fun L1 => (p10 C R L1)) S := rfl
def p11 (S : St) : Prop := ops C r1 (kq [1, 2, 4] (p2 C R)) S
def p12 (S : St) : Prop := ops C r0 (kq [1, 2] (p11 C R)) S
theorem s (S : St) : X C c (retK R) S = p12 C R S := by kernel_rfl
theorem E : type_of% @r8.eq_1 ∧ type_of% @p1.eq_1 ∧ type_of% @r7.eq_1 ∧ type_of% @p3.eq_1 ∧ type_of% @r6.eq_1 ∧ type_of% @t6.eq_1 ∧ type_of% @p5.eq_1 ∧ type_of% @p4.eq_1 ∧ type_of% @r5.eq_1 ∧ type_of% @p6.eq_1 ∧ type_of% @r4.eq_1 ∧ type_of% @p7.eq_1 ∧ type_of% @r3.eq_1 ∧ type_of% @p8.eq_1 ∧ type_of% @p9.eq_1 ∧ type_of% @r2.eq_1 ∧ type_of% @p10.eq_1 ∧ type_of% @r1.eq_1 ∧ type_of% @p11.eq_1 ∧ type_of% @r0.eq_1 ∧ type_of% @p12.eq_1 ∧ type_of% @s := ⟨@r8.eq_1, @p1.eq_1, @r7.eq_1, @p3.eq_1, @r6.eq_1, @t6.eq_1, @p5.eq_1, @p4.eq_1, @r5.eq_1, @p6.eq_1, @r4.eq_1, @p7.eq_1, @r3.eq_1, @p8.eq_1, @p9.eq_1, @r2.eq_1, @p10.eq_1, @r1.eq_1, @p11.eq_1, @r0.eq_1, @p12.eq_1, @s⟩
end wide_halved
namespace wide_div
def r0 : List G := [(some 2, none, (.box true 4 (.tmp 0))), (some 3, none, (.box true 4 (.tmp 1))), (some 4, none, (.new [(.int .u64 0), (.int .u64 0), (.int .u64 0), (.int .u64 0)])), (some 5, none, (.new [(.int .u64 0), (.int .u64 0), (.int .u64 0), (.int .u64 0)]))]
def r1 : List G := [(some 8, none, (.ld true 4 (.tmp 2))), (some 9, none, (.call true 183 [(.tmp 8)])), (some 10, none, (.ld true 4 (.tmp 3))), (some 11, none, (.call true 183 [(.tmp 10)])), (some 12, none, (.bin .sub (.tmp 9) (.tmp 11)))]
def t1 : List G := [(some 6, none, (.mv (.tmp 12)))]
def r2 : List G := [(some 13, none, (.mv (.tmp 6))), (some 14, none, (.bin .lss (.tmp 13) (.const (.int .i64 0))))]
def o3 : List (List G) := [[(some 15, none, (.ld true 4 (.tmp 4))), (some 16, none, (.ld true 4 (.tmp 2))), (none, none, (.st true 4 (.tmp 4) (.tmp 15))), (none, none, (.st true 4 (.tmp 5) (.tmp 16)))],
  [(some 15, none, (.ld true 4 (.tmp 4))), (none, none, (.st true 4 (.tmp 4) (.tmp 15))), (some 16, none, (.ld true 4 (.tmp 2))), (none, none, (.st true 4 (.tmp 5) (.tmp 16)))],
  [(some 16, none, (.ld true 4 (.tmp 2))), (some 15, none, (.ld true 4 (.tmp 4))), (none, none, (.st true 4 (.tmp 4) (.tmp 15))), (none, none, (.st true 4 (.tmp 5) (.tmp 16)))]]
def r4 : List G := [(some 17, none, (.ld true 4 (.tmp 3))), (some 18, none, (.mv (.tmp 6))), (some 19, none, (.call false 184 [(.tmp 17), (.tmp 18)])), (some 7, none, (.new [(.int .u64 0), (.int .u64 0), (.int .u64 0), (.int .u64 0)])), (none, none, (.st true 4 (.tmp 7) (.tmp 19)))]
def r5 : List G := [(some 20, none, (.mv (.tmp 6))), (some 21, none, (.bin .geq (.tmp 20) (.const (.int .i64 0))))]
def r7 : List G := [(some 24, none, (.ld true 4 (.tmp 2))), (some 25, none, (.ld true 4 (.tmp 7))), (some 26, none, (.call false 141 [(.tmp 24), (.tmp 25)])), (some 27, none, (.bin .geq (.tmp 26) (.const (.int .i64 0))))]
def r8 : List G := [(some 28, none, (.ld true 4 (.tmp 2))), (some 29, none, (.ld true 4 (.tmp 7))), (some 30, none, (.call false 142 [(.tmp 28), (.tmp 29)])), (none, none, (.st true 4 (.tmp 2) (.tmp 30)))]
def r9 : List G := [(some 31, none, (.mv (.tmp 6))), (some 32, none, (.bin .quo (.tmp 31) (.const (.int .i64 64)))), (some 33, none, (.ia 4 1 (.tmp 4) (.tmp 32))), (some 34, none, (.ld false 1 (.tmp 33))), (some 35, none, (.mv (.tmp 6))), (some 36, none, (.bin .rem (.tmp 35) (.const (.int .i64 64)))), (some 37, none, (.bin .shl (.const (.int .u64 1)) (.tmp 36))), (some 38, none, (.bin .or (.tmp 34) (.tmp 37))), (some 39, none, (.ia 4 1 (.tmp 4) (.tmp 32)))]
def t9 : List G := [(none, none, (.st false 1 (.tmp 39) (.tmp 38)))]
def r10 : List G := [(some 40, none, (.ld true 4 (.tmp 7))), (some 41, none, (.call false 185 [(.tmp 40)])), (none, none, (.st true 4 (.tmp 7) (.tmp 41)))]
def r6 : List G := [(some 22, none, (.mv (.tmp 6))), (some 23, none, (.bin .sub (.tmp 22) (.const (.int .i64 1)))), (some 6, none, (.mv (.tmp 23)))]
def o11 : List (List G) := [[(some 42, none, (.ld true 4 (.tmp 4))), (some 43, none, (.ld true 4 (.tmp 2))), (none, none, (.st true 4 (.tmp 4) (.tmp 42))), (none, none, (.st true 4 (.tmp 5) (.tmp 43)))],
  [(some 42, none, (.ld true 4 (.tmp 4))), (none, none, (.st true 4 (.tmp 4) (.tmp 42))), (some 43, none, (.ld true 4 (.tmp 2))), (none, none, (.st true 4 (.tmp 5) (.tmp 43)))],
  [(some 43, none, (.ld true 4 (.tmp 2))), (some 42, none, (.ld true 4 (.tmp 4))), (none, none, (.st true 4 (.tmp 4) (.tmp 42))), (none, none, (.st true 4 (.tmp 5) (.tmp 43)))]]
def c : MC := (.seq (.reg r0 (some [2, 3, 4, 5])) (.seq (.dreg r1 t1 (some [2, 3, 4, 5, 6])) (.seq (.seq (.reg r2 (some [2, 3, 4, 5, 6, 14])) (.cond (.tmp 14) (.seq (.areg [] o3 (some [4, 5])) .ret) .skip)) (.seq (.reg r4 (some [2, 4, 5, 6, 7])) (.seq (.block 0 (.loop (.seq (.seq (.reg r5 (some [2, 4, 5, 6, 7, 21])) (.cond (.tmp 21) .skip (.exit 0))) (.seq (.block 1 (.seq (.seq (.reg r7 (some [2, 4, 5, 6, 7, 27])) (.cond (.tmp 27) (.seq (.reg r8 (some [2, 4, 5, 6, 7])) (.dreg r9 t9 (some [2, 4, 5, 6, 7]))) .skip)) (.reg r10 (some [2, 4, 5, 6, 7])))) (.reg r6 (some [2, 4, 5, 6, 7])))))) (.seq (.areg [] o11 (some [4, 5])) .ret))))))
def ann : Ann := [(0, (some [2, 3, 4, 5], 0, [], [], [])), (1, (some [2, 3, 4, 5, 6], 5, [], [(0, 0), (1, 0), (2, 0), (3, 0), (4, 0)], [])), (2, (some [2, 3, 4, 5, 6, 14], 0, [], [], [])), (3, (some [4, 5], 99999, [], [], [])), (4, (some [2, 4, 5, 6, 7], 0, [], [], [])), (5, (some [2, 4, 5, 6, 7, 21], 0, [], [], [])), (6, (some [2, 4, 5, 6, 7], 0, [], [], [])), (7, (some [2, 4, 5, 6, 7, 27], 0, [], [], [])), (8, (some [2, 4, 5, 6, 7], 0, [], [], [])), (9, (some [2, 4, 5, 6, 7], 9, [], [(0, 0), (1, 0), (2, 0), (3, 0), (4, 0), (5, 0), (6, 0), (7, 0), (8, 0)], [])), (10, (some [2, 4, 5, 6, 7], 0, [], [], [])), (11, (some [4, 5], 99999, [], [], []))]
theorem ok : compF Try.prog Try.f173 ann = some (44, c, [(4, some (true, 4)), (5, some (true, 4))]) := by kernel_rfl
def p1 (S : St) : Prop := areX C [] o11 (kq [4, 5] R) S
def p3 (S : St) : Prop := ops C r6 (kq [2, 4, 5, 6, 7] L1) S
def p4 (S : St) : Prop := ops C r10 (kq [2, 4, 5, 6, 7] (p3 C L1)) S
def p6 (S : St) : Prop := ops C r9 (ops C t9 (kq [2, 4, 5, 6, 7] (p4 C L1))) S
def p7 (S : St) : Prop := ops C r8 (kq [2, 4, 5, 6, 7] (p6 C L1)) S
def p5 (S : St) : Prop := condX (S.ev (.tmp 27)) (p7 C L1) (p4 C L1) S
def p8 (S : St) : Prop := ops C r7 (kq [2, 4, 5, 6, 7, 27] (p5 C L1)) S
def p9 (S : St) : Prop := condX (S.ev (.tmp 21)) (p8 C L1) (p1 C R) S
def p10 (S : St) : Prop := ops C r5 (kq [2, 4, 5, 6, 7, 21] (p9 C R L1)) S
def p2 (S : St) : Prop := LX C (fun L1 => (p10 C R L1)) S
theorem p2_l (S : St) : p2 C R S = LX C (fun L1 => (p10 C R L1)) S := rfl
def p11 (S : St) : Prop := ops C r4 (kq [2, 4, 5, 6, 7] (p2 C R)) S
def p13 (S : St) : Prop := areX C [] o3 (kq [4, 5] R) S
def p12 (S : St) : Prop := condX (S.ev (.tmp 14)) (p13 C R) (p11 C R) S
def p14 (S : St) : Prop := ops C r2 (kq [2, 3, 4, 5, 6, 14] (p12 C R)) S
def p15 (S : St) : Prop := ops C r1 (ops C t1 (kq [2, 3, 4, 5, 6] (p14 C R))) S
def p16 (S : St) : Prop := ops C r0 (kq [2, 3, 4, 5] (p15 C R)) S
theorem s (S : St) : X C c (retK R) S = p16 C R S := by kernel_rfl
theorem E : type_of% @o11.eq_1 ∧ type_of% @p1.eq_1 ∧ type_of% @r6.eq_1 ∧ type_of% @p3.eq_1 ∧ type_of% @r10.eq_1 ∧ type_of% @p4.eq_1 ∧ type_of% @r9.eq_1 ∧ type_of% @t9.eq_1 ∧ type_of% @p6.eq_1 ∧ type_of% @r8.eq_1 ∧ type_of% @p7.eq_1 ∧ type_of% @p5.eq_1 ∧ type_of% @r7.eq_1 ∧ type_of% @p8.eq_1 ∧ type_of% @p9.eq_1 ∧ type_of% @r5.eq_1 ∧ type_of% @p10.eq_1 ∧ type_of% @r4.eq_1 ∧ type_of% @p11.eq_1 ∧ type_of% @o3.eq_1 ∧ type_of% @p13.eq_1 ∧ type_of% @p12.eq_1 ∧ type_of% @r2.eq_1 ∧ type_of% @p14.eq_1 ∧ type_of% @r1.eq_1 ∧ type_of% @t1.eq_1 ∧ type_of% @p15.eq_1 ∧ type_of% @r0.eq_1 ∧ type_of% @p16.eq_1 ∧ type_of% @s := ⟨@o11.eq_1, @p1.eq_1, @r6.eq_1, @p3.eq_1, @r10.eq_1, @p4.eq_1, @r9.eq_1, @t9.eq_1, @p6.eq_1, @r8.eq_1, @p7.eq_1, @p5.eq_1, @r7.eq_1, @p8.eq_1, @p9.eq_1, @r5.eq_1, @p10.eq_1, @r4.eq_1, @p11.eq_1, @o3.eq_1, @p13.eq_1, @p12.eq_1, @r2.eq_1, @p14.eq_1, @r1.eq_1, @t1.eq_1, @p15.eq_1, @r0.eq_1, @p16.eq_1, @s⟩
end wide_div
namespace wide_DivMod
def r0 : List G := [(some 2, none, (.box true 5 (.tmp 0))), (some 3, none, (.box true 5 (.tmp 1))), (some 4, none, (.new zW)), (some 5, none, (.new zW)), (some 6, none, (.mv (.const (.bool false))))]
def r1 : List G := [(some 9, none, (.ld true 5 (.tmp 2))), (some 10, none, (.call true 138 [(.tmp 9)])), (some 11, none, (.ld true 5 (.tmp 3))), (some 12, none, (.call true 138 [(.tmp 11)]))]
def t1 : List G := [(none, none, (.st true 5 (.tmp 2) (.tmp 10))), (none, none, (.st true 5 (.tmp 3) (.tmp 12)))]
def r2 : List G := [(some 13, none, (.ld true 5 (.tmp 3))), (some 14, none, (.call false 87 [(.tmp 13)])), (some 15, none, (.bin .eql (.tmp 14) (.const (.int .i64 0))))]
def o3 : List (List G) := [[(some 16, none, (.ld true 5 (.tmp 4))), (some 17, none, (.ld true 5 (.tmp 5))), (none, none, (.st true 5 (.tmp 4) (.tmp 16))), (none, none, (.st true 5 (.tmp 5) (.tmp 17))), (some 6, none, (.mv (.const (.bool false))))],
  [(some 16, none, (.ld true 5 (.tmp 4))), (none, none, (.st true 5 (.tmp 4) (.tmp 16))), (some 17, none, (.ld true 5 (.tmp 5))), (none, none, (.st true 5 (.tmp 5) (.tmp 17))), (some 6, none, (.mv (.const (.bool false))))],
  [(some 17, none, (.ld true 5 (.tmp 5))), (some 16, none, (.ld true 5 (.tmp 4))), (none, none, (.st true 5 (.tmp 4) (.tmp 16))), (none, none, (.st true 5 (.tmp 5) (.tmp 17))), (some 6, none, (.mv (.const (.bool false))))]]
def r4 : List G := [(some 19, none, (.fa 1 (.tmp 2))), (some 20, none, (.ld true 4 (.tmp 19))), (some 21, none, (.fa 1 (.tmp 3))), (some 22, none, (.ld true 4 (.tmp 21))), (some 23, none, (.call false 173 [(.tmp 20), (.tmp 22)])), (some 18, none, (.mv (.tmp 23))), (some 24, none, (.ex (.tmp 18) 0)), (some 25, none, (.ex (.tmp 18) 1)), (some 7, none, (.new [(.int .u64 0), (.int .u64 0), (.int .u64 0), (.int .u64 0)])), (some 8, none, (.new [(.int .u64 0), (.int .u64 0), (.int .u64 0), (.int .u64 0)])), (none, none, (.st true 4 (.tmp 7) (.tmp 24))), (none, none, (.st true 4 (.tmp 8) (.tmp 25)))]
def r5 : List G := [(some 26, none, (.fa 0 (.tmp 2))), (some 27, none, (.ld false 1 (.tmp 26))), (some 28, none, (.mv (.tmp 27))), (some 29, some (28, true), (.ld true 4 (.tmp 8))), (some 30, some (28, true), (.bd [(.int .u64 0), (.int .u64 0), (.int .u64 0), (.int .u64 0)] [])), (some 31, some (28, true), (.eqg true 36 (.tmp 29) (.tmp 30))), (some 32, none, (.pick (.tmp 28) (.tmp 31) (.const (.bool false))))]
def r6 : List G := [(some 34, none, (.ld true 4 (.tmp 7))), (some 35, none, (.bd [(.int .u64 0), (.int .u64 0), (.int .u64 0), (.int .u64 0)] [(0, 1, (.const (.int .u64 1)))])), (some 36, none, (.call false 139 [(.tmp 34), (.tmp 35)])), (some 33, none, (.mv (.tmp 36))), (some 37, none, (.ex (.tmp 33) 0)), (some 38, none, (.ex (.tmp 33) 1)), (none, none, (.st true 4 (.tmp 7) (.tmp 37)))]
def r7 : List G := [(some 39, none, (.fa 1 (.tmp 3))), (some 40, none, (.ld true 4 (.tmp 39))), (some 41, none, (.ld true 4 (.tmp 8))), (some 42, none, (.call false 142 [(.tmp 40), (.tmp 41)])), (none, none, (.st true 4 (.tmp 8) (.tmp 42)))]
def r8 : List G := [(some 43, none, (.fa 0 (.tmp 2))), (some 44, none, (.ld false 1 (.tmp 43))), (some 45, none, (.fa 0 (.tmp 3))), (some 46, none, (.ld false 1 (.tmp 45))), (some 47, none, (.bq true (.tmp 44) (.tmp 46))), (some 48, none, (.ld true 4 (.tmp 7))), (some 49, none, (.call true 140 [(.tmp 47), (.tmp 48)])), (some 50, none, (.ld true 4 (.tmp 8))), (some 51, none, (.call true 140 [(.const (.bool false)), (.tmp 50)]))]
def t8 : List G := [(none, none, (.st true 5 (.tmp 4) (.tmp 49))), (none, none, (.st true 5 (.tmp 5) (.tmp 51))), (some 6, none, (.mv (.const (.bool true))))]
def c : MC := (.seq (.reg r0 (some [2, 3, 4, 5])) (.seq (.dreg r1 t1 (some [2, 3, 4, 5])) (.seq (.seq (.reg r2 (some [2, 3, 4, 5, 15])) (.cond (.tmp 15) (.seq (.areg [] o3 (some [4, 5, 6])) .ret) .skip)) (.seq (.reg r4 (some [2, 3, 4, 5, 7, 8])) (.seq (.seq (.reg r5 (some [2, 3, 4, 5, 7, 8, 32])) (.cond (.tmp 32) (.seq (.reg r6 (some [2, 3, 4, 5, 7, 8])) (.reg r7 (some [2, 3, 4, 5, 7, 8]))) .skip)) (.seq (.dreg r8 t8 (some [4, 5, 6])) .ret))))))
def ann : Ann := [(0, (some [2, 3, 4, 5], 0, [], [], [])), (1, (some [2, 3, 4, 5], 4, [], [(0, 0), (1, 0), (2, 0), (3, 0)], [])), (2, (some [2, 3, 4, 5, 15], 0, [], [], [])), (3, (some [4, 5, 6], 99999, [], [], [])), (4, (some [2, 3, 4, 5, 7, 8], 0, [], [], [])), (5, (some [2, 3, 4, 5, 7, 8, 32], 0, [], [], [])), (6, (some [2, 3, 4, 5, 7, 8], 0, [], [], [])), (7, (some [2, 3, 4, 5, 7, 8], 0, [], [], [])), (8, (some [4, 5, 6], 9, [], [(0, 0), (1, 0), (2, 0), (3, 0), (4, 0), (5, 0), (6, 0), (7, 0), (8, 0)], []))]
theorem ok : compF Try.prog Try.f145 ann = some (52, c, [(4, some (true, 5)), (5, some (true, 5)), (6, none)]) := by kernel_rfl
def p1 (S : St) : Prop := ops C r8 (ops C t8 (kq [4, 5, 6] R)) S
def p3 (S : St) : Prop := ops C r7 (kq [2, 3, 4, 5, 7, 8] (p1 C R)) S
def p4 (S : St) : Prop := ops C r6 (kq [2, 3, 4, 5, 7, 8] (p3 C R)) S
def p2 (S : St) : Prop := condX (S.ev (.tmp 32)) (p4 C R) (p1 C R) S
def p5 (S : St) : Prop := ops C r5 (kq [2, 3, 4, 5, 7, 8, 32] (p2 C R)) S
def p6 (S : St) : Prop := ops C r4 (kq [2, 3, 4, 5, 7, 8] (p5 C R)) S
def p8 (S : St) : Prop := areX C [] o3 (kq [4, 5, 6] R) S
def p7 (S : St) : Prop := condX (S.ev (.tmp 15)) (p8 C R) (p6 C R) S
def p9 (S : St) : Prop := ops C r2 (kq [2, 3, 4, 5, 15] (p7 C R)) S
def p10 (S : St) : Prop := ops C r1 (ops C t1 (kq [2, 3, 4, 5] (p9 C R))) S
def p11 (S : St) : Prop := ops C r0 (kq [2, 3, 4, 5] (p10 C R)) S
theorem s (S : St) : X C c (retK R) S = p11 C R S := by kernel_rfl
theorem E : type_of% @r8.eq_1 ∧ type_of% @t8.eq_1 ∧ type_of% @p1.eq_1 ∧ type_of% @r7.eq_1 ∧ type_of% @p3.eq_1 ∧ type_of% @r6.eq_1 ∧ type_of% @p4.eq_1 ∧ type_of% @p2.eq_1 ∧ type_of% @r5.eq_1 ∧ type_of% @p5.eq_1 ∧ type_of% @r4.eq_1 ∧ type_of% @p6.eq_1 ∧ type_of% @o3.eq_1 ∧ type_of% @p8.eq_1 ∧ type_of% @p7.eq_1 ∧ type_of% @r2.eq_1 ∧ type_of% @p9.eq_1 ∧ type_of% @r1.eq_1 ∧ type_of% @t1.eq_1 ∧ type_of% @p10.eq_1 ∧ type_of% @r0.eq_1 ∧ type_of% @p11.eq_1 ∧ type_of% @s := ⟨@r8.eq_1, @t8.eq_1, @p1.eq_1, @r7.eq_1, @p3.eq_1, @r6.eq_1, @p4.eq_1, @p2.eq_1, @r5.eq_1, @p5.eq_1, @r4.eq_1, @p6.eq_1, @o3.eq_1, @p8.eq_1, @p7.eq_1, @r2.eq_1, @p9.eq_1, @r1.eq_1, @t1.eq_1, @p10.eq_1, @r0.eq_1, @p11.eq_1, @s⟩
end wide_DivMod
namespace wide_Sign
def r0 : List G := [(some 1, none, (.box true 5 (.tmp 0))), (some 2, none, (.mv (.const (.int .i64 0))))]
def r1 : List G := [(some 3, none, (.ld true 5 (.tmp 1))), (some 4, none, (.call false 138 [(.tmp 3)])), (none, none, (.st true 5 (.tmp 1) (.tmp 4)))]
def r2 : List G := [(some 6, none, (.fa 0 (.tmp 1))), (some 7, none, (.ld false 1 (.tmp 6))), (some 5, none, (.mv (.tmp 7)))]
def r3 : List G := [(some 2, none, (.mv (.const (.int .i64 (-1)))))]
def r4 : List G := [(some 9, none, (.fa 1 (.tmp 1))), (some 10, none, (.ld true 4 (.tmp 9))), (some 11, none, (.bd [(.int .u64 0), (.int .u64 0), (.int .u64 0), (.int .u64 0)] [])), (some 12, none, (.eqg false 36 (.tmp 10) (.tmp 11))), (some 8, none, (.mv (.tmp 12)))]
def r5 : List G := [(some 2, none, (.mv (.const (.int .i64 0))))]
def r6 : List G := [(some 2, none, (.mv (.const (.int .i64 1))))]
def c : MC := (.seq (.reg r0 (some [1])) (.seq (.reg r1 (some [1])) (.seq (.block 0 (.seq (.reg r2 (some [1, 5])) (.cond (.tmp 5) (.seq (.reg r3 (some [2])) .ret) (.seq (.reg r4 (some [8])) (.cond (.tmp 8) (.seq (.reg r5 (some [2])) .ret) .skip))))) (.seq (.reg r6 (some [2])) .ret))))
def ann : Ann := [(0, (some [1], 0, [], [], [])), (1, (some [1], 0, [], [], [])), (2, (some [1, 5], 0, [], [], [])), (3, (some [2], 0, [], [], [])), (4, (some [8], 0, [], [], [])), (5, (some [2], 0, [], [], [])), (6, (some [2], 0, [], [], []))]
theorem ok : compF Try.prog Try.f87 ann = some (13, c, [(2, none)]) := by kernel_rfl
def p1 (S : St) : Prop := ops C r6 (kq [2] R) S
def p3 (S : St) : Prop := ops C r3 (kq [2] R) S
def p5 (S : St) : Prop := ops C r5 (kq [2] R) S
def p4 (S : St) : Prop := condX (S.ev (.tmp 8)) (p5 C R) (p1 C R) S
def p6 (S : St) : Prop := ops C r4 (kq [8] (p4 C R)) S
def p2 (S : St) : Prop := condX (S.ev (.tmp 5)) (p3 C R) (p6 C R) S
def p7 (S : St) : Prop := ops C r2 (kq [1, 5] (p2 C R)) S
def p8 (S : St) : Prop := ops C r1 (kq [1] (p7 C R)) S
def p9 (S : St) : Prop := ops C r0 (kq [1] (p8 C R)) S
theorem s (S : St) : X C c (retK R) S = p9 C R S := by kernel_rfl
theorem E : type_of% @r6.eq_1 ∧ type_of% @p1.eq_1 ∧ type_of% @r3.eq_1 ∧ type_of% @p3.eq_1 ∧ type_of% @r5.eq_1 ∧ type_of% @p5.eq_1 ∧ type_of% @p4.eq_1 ∧ type_of% @r4.eq_1 ∧ type_of% @p6.eq_1 ∧ type_of% @p2.eq_1 ∧ type_of% @r2.eq_1 ∧ type_of% @p7.eq_1 ∧ type_of% @r1.eq_1 ∧ type_of% @p8.eq_1 ∧ type_of% @r0.eq_1 ∧ type_of% @p9.eq_1 ∧ type_of% @s := ⟨@r6.eq_1, @p1.eq_1, @r3.eq_1, @p3.eq_1, @r5.eq_1, @p5.eq_1, @p4.eq_1, @r4.eq_1, @p6.eq_1, @p2.eq_1, @r2.eq_1, @p7.eq_1, @r1.eq_1, @p8.eq_1, @r0.eq_1, @p9.eq_1, @s⟩
end wide_Sign
namespace wide_OfUnsigned
def r0 : List G := [(some 2, none, (.new zW))]
def r1 : List G := [(some 3, none, (.mv (.tmp 0))), (some 4, none, (.bd [(.int .u64 0), (.int .u64 0), (.int .u64 0), (.int .u64 0)] [(0, 1, (.tmp 3))])), (some 5, none, (.bd zW [(1, 4, (.tmp 4))])), (none, none, (.st true 5 (.tmp 2) (.tmp 5)))]
def c : MC := (.seq (.reg r0 (some [0, 2])) (.seq (.reg r1 (some [2])) .ret))
def ann : Ann := [(0, (some [0, 2], 0, [], [], [])), (1, (some [2], 0, [], [], []))]
theorem ok : compF Try.prog Try.f111 ann = some (6, c, [(2, some (true, 5))]) := by kernel_rfl
def p1 (S : St) : Prop := ops C r1 (kq [2] R) S
def p2 (S : St) : Prop := ops C r0 (kq [0, 2] (p1 C R)) S
theorem s (S : St) : X C c (retK R) S = p2 C R S := by kernel_rfl
theorem E : type_of% @r1.eq_1 ∧ type_of% @p1.eq_1 ∧ type_of% @r0.eq_1 ∧ type_of% @p2.eq_1 ∧ type_of% @s := ⟨@r1.eq_1, @p1.eq_1, @r0.eq_1, @p2.eq_1, @s⟩
end wide_OfUnsigned
namespace math_bits_Div64
def r0 : List G := [(some 6, none, (.mv (.const (.int .u64 0)))), (some 7, none, (.mv (.const (.int .u64 0))))]
def r1 : List G := [(some 19, none, (.mv (.tmp 2))), (some 20, none, (.bin .eql (.tmp 19) (.const (.int .u64 0))))]
def r2 : List G := [(some 21, none, (.ld false 1 (.global 0))), (none, none, .trap)]
def r3 : List G := [(some 22, none, (.mv (.tmp 2))), (some 23, none, (.mv (.tmp 0))), (some 24, none, (.bin .leq (.tmp 22) (.tmp 23)))]
def r4 : List G := [(some 25, none, (.ld false 1 (.global 1))), (none, none, .trap)]
def r5 : List G := [(some 26, none, (.mv (.tmp 0))), (some 27, none, (.bin .eql (.tmp 26) (.const (.int .u64 0))))]
def r6 : List G := [(some 28, none, (.mv (.tmp 1))), (some 29, none, (.mv (.tmp 2))), (some 30, none, (.bin .quo (.tmp 28) (.tmp 29))), (some 31, none, (.mv (.tmp 1))), (some 32, none, (.mv (.tmp 2))), (some 33, none, (.bin .rem (.tmp 31) (.tmp 32)))]
def t6 : List G := [(some 6, none, (.mv (.tmp 30))), (some 7, none, (.mv (.tmp 33)))]
def r7 : List G := [(some 34, none, (.mv (.tmp 2))), (some 35, none, (.call false 168 [(.tmp 34)])), (some 36, none, (.cv .u64 (.tmp 35))), (some 8, none, (.mv (.tmp 36)))]
def r8 : List G := [(some 37, none, (.mv (.tmp 2))), (some 38, none, (.mv (.tmp 8))), (some 39, none, (.bin .shl (.tmp 37) (.tmp 38))), (some 2, none, (.mv (.tmp 39)))]
def r9 : List G := [(some 40, none, (.mv (.tmp 2))), (some 41, none, (.bin .shr (.tmp 40) (.const (.int .u64 32)))), (some 9, none, (.mv (.tmp 41)))]
def r10 : List G := [(some 42, none, (.mv (.tmp 2))), (some 43, none, (.bin .and (.tmp 42) (.const (.int .u64 4294967295)))), (some 10, none, (.mv (.tmp 43)))]
def r11 : List G := [(some 44, none, (.mv (.tmp 0))), (some 45, none, (.mv (.tmp 8))), (some 46, none, (.bin .shl (.tmp 44) (.tmp 45))), (some 47, none, (.mv (.tmp 1))), (some 48, none, (.mv (.tmp 8))), (some 49, none, (.bin .sub (.const (.int .u64 64)) (.tmp 48))), (some 50, none, (.bin .shr (.tmp 47) (.tmp 49))), (some 51, none, (.bin .or (.tmp 46) (.tmp 50))), (some 11, none, (.mv (.tmp 51)))]
def r12 : List G := [(some 52, none, (.mv (.tmp 1))), (some 53, none, (.mv (.tmp 8))), (some 54, none, (.bin .shl (.tmp 52) (.tmp 53))), (some 12, none, (.mv (.tmp 54)))]
def r13 : List G := [(some 55, none, (.mv (.tmp 12))), (some 56, none, (.bin .shr (.tmp 55) (.const (.int .u64 32)))), (some 13, none, (.mv (.tmp 56)))]
def r14 : List G := [(some 57, none, (.mv (.tmp 12))), (some 58, none, (.bin .and (.tmp 57) (.const (.int .u64 4294967295)))), (some 14, none, (.mv (.tmp 58)))]
def r15 : List G := [(some 59, none, (.mv (.tmp 11))), (some 60, none, (.mv (.tmp 9))), (some 61, none, (.bin .quo (.tmp 59) (.tmp 60))), (some 15, none, (.mv (.tmp 61)))]
def r16 : List G := [(some 62, none, (.mv (.tmp 11))), (some 63, none, (.mv (.tmp 15))), (some 64, none, (.mv (.tmp 9))), (some 65, none, (.bin .mul (.tmp 63) (.tmp 64))), (some 66, none, (.bin .sub (.tmp 62) (.tmp 65))), (some 16, none, (.mv (.tmp 66)))]
def r17 : List G := [(some 67, none, (.mv (.tmp 15))), (some 68, none, (.bin .geq (.tmp 67) (.const (.int .u64 4294967296)))), (some 69, none, (.mv (.tmp 68))), (some 70, some (69, false), (.mv (.tmp 15))), (some 71, some (69, false), (.mv (.tmp 10))), (some 72, some (69, false), (.bin .mul (.tmp 70) (.tmp 71))), (some 73, some (69, false), (.mv (.tmp 16))), (some 74, some (69, false), (.bin .mul (.const (.int .u64 4294967296)) (.tmp 73))), (some 75, some (69, false), (.mv (.tmp 13))), (some 76, some (69, false), (.bin .add (.tmp 74) (.tmp 75))), (some 77, some (69, false), (.bin .gtr (.tmp 72) (.tmp 76))), (some 78, none, (.pick (.tmp 69) (.const (.bool true)) (.tmp 77)))]
def r18 : List G := [(some 79, none, (.mv (.tmp 15))), (some 80, none, (.bin .sub (.tmp 79) (.const (.int .u64 1)))), (some 15, none, (.mv (.tmp 80)))]
def r19 : List G := [(some 81, none, (.mv (.tmp 16))), (some 82, none, (.mv (.tmp 9))), (some 83, none, (.bin .add (.tmp 81) (.tmp 82))), (some 16, none, (.mv (.tmp 83)))]
def r20 : List G := [(some 84, none, (.mv (.tmp 16))), (some 85, none, (.bin .geq (.tmp 84) (.const (.int .u64 4294967296))))]
def r21 : List G := [(some 86, none, (.mv (.tmp 11))), (some 87, none, (.bin .mul (.tmp 86) (.const (.int .u64 4294967296)))), (some 88, none, (.mv (.tmp 13))), (some 89, none, (.bin .add (.tmp 87) (.tmp 88))), (some 90, none, (.mv (.tmp 15))), (some 91, none, (.mv (.tmp 2))), (some 92, none, (.bin .mul (.tmp 90) (.tmp 91))), (some 93, none, (.bin .sub (.tmp 89) (.tmp 92))), (some 17, none, (.mv (.tmp 93)))]
def r22 : List G := [(some 94, none, (.mv (.tmp 17))), (some 95, none, (.mv (.tmp 9))), (some 96, none, (.bin .quo (.tmp 94) (.tmp 95))), (some 18, none, (.mv (.tmp 96)))]
def r23 : List G := [(some 97, none, (.mv (.tmp 17))), (some 98, none, (.mv (.tmp 18))), (some 99, none, (.mv (.tmp 9))), (some 100, none, (.bin .mul (.tmp 98) (.tmp 99))), (some 101, none, (.bin .sub (.tmp 97) (.tmp 100))), (some 16, none, (.mv (.tmp 101)))]
def r24 : List G := [(some 102, none, (.mv (.tmp 18))), (some 103, none, (.bin .geq (.tmp 102) (.const (.int .u64 4294967296)))), (some 104, none, (.mv (.tmp 103))), (some 105, some (104, false), (.mv (.tmp 18))), (some 106, some (104, false), (.mv (.tmp 10))), (some 107, some (104, false), (.bin .mul (.tmp 105) (.tmp 106))), (some 108, some (104, false), (.mv (.tmp 16))), (some 109, some (104, false), (.bin .mul (.const (.int .u64 4294967296)) (.tmp 108))), (some 110, some (104, false), (.mv (.tmp 14))), (some 111, some (104, false), (.bin .add (.tmp 109) (.tmp 110))), (some 112, some (104, false), (.bin .gtr (.tmp 107) (.tmp 111))), (some 113, none, (.pick (.tmp 104) (.const (.bool true)) (.tmp 112)))]
def r25 : List G := [(some 114, none, (.mv (.tmp 18))), (some 115, none, (.bin .sub (.tmp 114) (.const (.int .u64 1)))), (some 18, none, (.mv (.tmp 115)))]
def r26 : List G := [(some 116, none, (.mv (.tmp 16))), (some 117, none, (.mv (.tmp 9))), (some 118, none, (.bin .add (.tmp 116) (.tmp 117))), (some 16, none, (.mv (.tmp 118)))]
def r27 : List G := [(some 119, none, (.mv (.tmp 16))), (some 120, none, (.bin .geq (.tmp 119) (.const (.int .u64 4294967296))))]
def r28 : List G := [(some 121, none, (.mv (.tmp 15))), (some 122, none, (.bin .mul (.tmp 121) (.const (.int .u64 4294967296)))), (some 123, none, (.mv (.tmp 18))), (some 124, none, (.bin .add (.tmp 122) (.tmp 123))), (some 125, none, (.mv (.tmp 17))), (some 126, none, (.bin .mul (.tmp 125) (.const (.int .u64 4294967296)))), (some 127, none, (.mv (.tmp 14))), (some 128, none, (.bin .add (.tmp 126) (.tmp 127))), (some 129, none, (.mv (.tmp 18))), (some 130, none, (.mv (.tmp 2))), (some 131, none, (.bin .mul (.tmp 129) (.tmp 130))), (some 132, none, (.bin .sub (.tmp 128) (.tmp 131))), (some 133, none, (.mv (.tmp 8))), (some 134, none, (.bin .shr (.tmp 132) (.tmp 133))), (some 6, none, (.mv (.tmp 124))), (some 7, none, (.mv (.tmp 134)))]
def c : MC := (.seq (.reg r0 (some [0, 1, 2])) (.seq (.seq (.reg r1 (some [0, 1, 2, 20])) (.cond (.tmp 20) (.reg r2 (some [0, 1, 2])) .skip)) (.seq (.seq (.reg r3 (some [0, 1, 2, 24])) (.cond (.tmp 24) (.reg r4 (some [0, 1, 2])) .skip)) (.seq (.seq (.reg r5 (some [0, 1, 2, 27])) (.cond (.tmp 27) (.seq (.dreg r6 t6 (some [6, 7])) .ret) .skip)) (.seq (.reg r7 (some [0, 1, 2, 8])) (.seq (.reg r8 (some [0, 1, 2, 8])) (.seq (.reg r9 (some [0, 1, 2, 8, 9])) (.seq (.reg r10 (some [0, 1, 2, 8, 9, 10])) (.seq (.reg r11 (some [1, 2, 8, 9, 10, 11])) (.seq (.reg r12 (some [2, 8, 9, 10, 11, 12])) (.seq (.reg r13 (some [2, 8, 9, 10, 11, 12, 13])) (.seq (.reg r14 (some [2, 8, 9, 10, 11, 13, 14])) (.seq (.reg r15 (some [2, 8, 9, 10, 11, 13, 14, 15])) (.seq (.reg r16 (some [2, 8, 9, 10, 11, 13, 14, 15, 16])) (.seq (.block 0 (.loop (.seq (.seq (.reg r17 (some [2, 8, 9, 10, 11, 13, 14, 15, 16, 78])) (.cond (.tmp 78) .skip (.exit 0))) (.block 1 (.seq (.reg r18 (some [2, 8, 9, 10, 11, 13, 14, 15, 16])) (.seq (.reg r19 (some [2, 8, 9, 10, 11, 13, 14, 15, 16])) (.seq (.reg r20 (some [2, 8, 9, 10, 11, 13, 14, 15, 16, 85])) (.cond (.tmp 85) (.exit 0) .skip)))))))) (.seq (.reg r21 (some [2, 8, 9, 10, 14, 15, 17])) (.seq (.reg r22 (some [2, 8, 9, 10, 14, 15, 17, 18])) (.seq (.reg r23 (some [2, 8, 9, 10, 14, 15, 16, 17, 18])) (.seq (.block 2 (.loop (.seq (.seq (.reg r24 (some [2, 8, 9, 10, 14, 15, 16, 17, 18, 113])) (.cond (.tmp 113) .skip (.exit 2))) (.block 3 (.seq (.reg r25 (some [2, 8, 9, 10, 14, 15, 16, 17, 18])) (.seq (.reg r26 (some [2, 8, 9, 10, 14, 15, 16, 17, 18])) (.seq (.reg r27 (some [2, 8, 9, 10, 14, 15, 16, 17, 18, 120])) (.cond (.tmp 120) (.exit 2) .skip)))))))) (.seq (.reg r28 (some [6, 7])) .ret))))))))))))))))))))
def ann : Ann := [(0, (some [0, 1, 2], 0, [], [], [])), (1, (some [0, 1, 2, 20], 0, [], [], [])), (2, (some [0, 1, 2], 0, [], [], [])), (3, (some [0, 1, 2, 24], 0, [], [], [])), (4, (some [0, 1, 2], 0, [], [], [])), (5, (some [0, 1, 2, 27], 0, [], [], [])), (6, (some [6, 7], 6, [3, 4, 5], [(0, 0), (1, 0), (2, 0), (3, 2), (4, 2), (5, 2)], [])), (7, (some [0, 1, 2, 8], 0, [], [], [])), (8, (some [0, 1, 2, 8], 0, [], [], [])), (9, (some [0, 1, 2, 8, 9], 0, [], [], [])), (10, (some [0, 1, 2, 8, 9, 10], 0, [], [], [])), (11, (some [1, 2, 8, 9, 10, 11], 0, [], [], [])), (12, (some [2, 8, 9, 10, 11, 12], 0, [], [], [])), (13, (some [2, 8, 9, 10, 11, 12, 13], 0, [], [], [])), (14, (some [2, 8, 9, 10, 11, 13, 14], 0, [], [], [])), (15, (some [2, 8, 9, 10, 11, 13, 14, 15], 0, [], [], [])), (16, (some [2, 8, 9, 10, 11, 13, 14, 15, 16], 0, [], [], [])), (17, (some [2, 8, 9, 10, 11, 13, 14, 15, 16, 78], 0, [], [], [])), (18, (some [2, 8, 9, 10, 11, 13, 14, 15, 16], 0, [], [], [])), (19, (some [2, 8, 9, 10, 11, 13, 14, 15, 16], 0, [], [], [])), (20, (some [2, 8, 9, 10, 11, 13, 14, 15, 16, 85], 0, [], [], [])), (21, (some [2, 8, 9, 10, 14, 15, 17], 0, [], [], [])), (22, (some [2, 8, 9, 10, 14, 15, 17, 18], 0, [], [], [])), (23, (some [2, 8, 9, 10, 14, 15, 16, 17, 18], 0, [], [], [])), (24, (some [2, 8, 9, 10, 14, 15, 16, 17, 18, 113], 0, [], [], [])), (25, (some [2, 8, 9, 10, 14, 15, 16, 17, 18], 0, [], [], [])), (26, (some [2, 8, 9, 10, 14, 15, 16, 17, 18], 0, [], [], [])), (27, (some [2, 8, 9, 10, 14, 15, 16, 17, 18, 120], 0, [], [], [])), (28, (some [6, 7], 0, [], [], []))]
theorem ok : compF Try.prog Try.f130 ann = some (135, c, [(6, none), (7, none)]) := by kernel_rfl
def p1 (S : St) : Prop := ops C r28 (kq [6, 7] R) S
def p3 (S : St) : Prop := condX (S.ev (.tmp 120)) (p1 C R) L1 S
def p4 (S : St) : Prop := ops C r27 (kq [2, 8, 9, 10, 14, 15, 16, 17, 18, 120] (p3 C R L1)) S
def p5 (S : St) : Prop := ops C r26 (kq [2, 8, 9, 10, 14, 15, 16, 17, 18] (p4 C R L1)) S
def p6 (S : St) : Prop := ops C r25 (kq [2, 8, 9, 10, 14, 15, 16, 17, 18] (p5 C R L1)) S
def p7 (S : St) : Prop := condX (S.ev (.tmp 113)) (p6 C R L1) (p1 C R) S
def p8 (S : St) : Prop := ops C r24 (kq [2, 8, 9, 10, 14, 15, 16, 17, 18, 113] (p7 C R L1)) S
def p2 (S : St) : Prop := LX C (fun L1 => (p8 C R L1)) S
theorem p2_l (S : St) : p2 C R S = LX C (fun L1 => (p8 C R L1)) S := rfl
def p9 (S : St) : Prop := ops C r23 (kq [2, 8, 9, 10, 14, 15, 16, 17, 18] (p2 C R)) S
def p10 (S : St) : Prop := ops C r22 (kq [2, 8, 9, 10, 14, 15, 17, 18] (p9 C R)) S
def p11 (S : St) : Prop := ops C r21 (kq [2, 8, 9, 10, 14, 15, 17] (p10 C R)) S
def p13 (S : St) : Prop := condX (S.ev (.tmp 85)) (p11 C R) L1 S
def p14 (S : St) : Prop := ops C r20 (kq [2, 8, 9, 10, 11, 13, 14, 15, 16, 85] (p13 C R L1)) S
def p15 (S : St) : Prop := ops C r19 (kq [2, 8, 9, 10, 11, 13, 14, 15, 16] (p14 C R L1)) S
def p16 (S : St) : Prop := ops C r18 (kq [2, 8, 9, 10, 11, 13, 14, 15, 16] (p15 C R L1)) S
def p17 (S : St) : Prop := condX (S.ev (.tmp 78)) (p16 C R L1) (p11 C R) S
def p18 (S : St) : Prop := ops C r17 (kq [2, 8, 9, 10, 11, 13, 14, 15, 16, 78] (p17 C R L1)) S
def p12 (S : St) : Prop := LX C (fun L1 => (p18 C R L1)) S
theorem p12_l (S : St) : p12 C R S = LX C (fun L1 => (p18 C R L1)) S := rfl
def p19 (S : St) : Prop := ops C r16 (kq [2, 8, 9, 10, 11, 13, 14, 15, 16] (p12 C R)) S
def p20 (S : St) : Prop := ops C r15 (kq [2, 8, 9, 10, 11, 13, 14, 15] (p19 C R)) S
def p21 (S : St) : Prop := ops C r14 (kq [2, 8, 9, 10, 11, 13, 14] (p20 C R)) S
def p22 (S : St) : Prop := ops C r13 (kq [2, 8, 9, 10, 11, 12, 13] (p21 C R)) S
def p23 (S : St) : Prop := ops C r12 (kq [2, 8, 9, 10, 11, 12] (p22 C R)) S
def p24 (S : St) : Prop := ops C r11 (kq [1, 2, 8, 9, 10, 11] (p23 C R)) S
def p25 (S : St) : Prop := ops C r10 (kq [0, 1, 2, 8, 9, 10] (p24 C R)) S
def p26 (S : St) : Prop := ops C r9 (kq [0, 1, 2, 8, 9] (p25 C R)) S
def p27 (S : St) : Prop := ops C r8 (kq [0, 1, 2, 8] (p26 C R)) S
def p28 (S : St) : Prop := ops C r7 (kq [0, 1, 2, 8] (p27 C R)) S
def p30 (S : St) : Prop := ops C r6 (ops C t6 (kq [6, 7] R)) S
def p29 (S : St) : Prop := condX (S.ev (.tmp 27)) (p30 C R) (p28 C R) S
def p31 (S : St) : Prop := ops C r5 (kq [0, 1, 2, 27] (p29 C R)) S
def p33 (S : St) : Prop := ops C r4 (kq [0, 1, 2] (p31 C R)) S
def p32 (S : St) : Prop := condX (S.ev (.tmp 24)) (p33 C R) (p31 C R) S
def p34 (S : St) : Prop := ops C r3 (kq [0, 1, 2, 24] (p32 C R)) S
def p36 (S : St) : Prop := ops C r2 (kq [0, 1, 2] (p34 C R)) S
def p35 (S : St) : Prop := condX (S.ev (.tmp 20)) (p36 C R) (p34 C R) S
def p37 (S : St) : Prop := ops C r1 (kq [0, 1, 2, 20] (p35 C R)) S
def p38 (S : St) : Prop := ops C r0 (kq [0, 1, 2] (p37 C R)) S
theorem s (S : St) : X C c (retK R) S = p38 C R S := by kernel_rfl
theorem E1 : type_of% @r28.eq_1 ∧ type_of% @p1.eq_1 ∧ type_of% @p3.eq_1 ∧ type_of% @r27.eq_1 ∧ type_of% @p4.eq_1 ∧ type_of% @r26.eq_1 ∧ type_of% @p5.eq_1 ∧ type_of% @r25.eq_1 ∧ type_of% @p6.eq_1 ∧ type_of% @p7.eq_1 ∧ type_of% @r24.eq_1 ∧ type_of% @p8.eq_1 ∧ type_of% @r23.eq_1 ∧ type_of% @p9.eq_1 ∧ type_of% @r22.eq_1 ∧ type_of% @p10.eq_1 ∧ type_of% @r21.eq_1 ∧ type_of% @p11.eq_1 ∧ type_of% @p13.eq_1 ∧ type_of% @r20.eq_1 ∧ type_of% @p14.eq_1 ∧ type_of% @r19.eq_1 ∧ type_of% @p15.eq_1 ∧ type_of% @r18.eq_1 ∧ type_of% @p16.eq_1 ∧ type_of% @p17.eq_1 ∧ type_of% @r17.eq_1 ∧ type_of% @p18.eq_1 ∧ type_of% @r16.eq_1 ∧ type_of% @p19.eq_1 ∧ type_of% @r15.eq_1 ∧ type_of% @p20.eq_1 ∧ type_of% @r14.eq_1 ∧ type_of% @p21.eq_1 ∧ type_of% @r13.eq_1 ∧ type_of% @p22.eq_1 ∧ type_of% @r12.eq_1 ∧ type_of% @p23.eq_1 ∧ type_of% @r11.eq_1 ∧ type_of% @p24.eq_1 := ⟨@r28.eq_1, @p1.eq_1, @p3.eq_1, @r27.eq_1, @p4.eq_1, @r26.eq_1, @p5.eq_1, @r25.eq_1, @p6.eq_1, @p7.eq_1, @r24.eq_1, @p8.eq_1, @r23.eq_1, @p9.eq_1, @r22.eq_1, @p10.eq_1, @r21.eq_1, @p11.eq_1, @p13.eq_1, @r20.eq_1, @p14.eq_1, @r19.eq_1, @p15.eq_1, @r18.eq_1, @p16.eq_1, @p17.eq_1, @r17.eq_1, @p18.eq_1, @r16.eq_1, @p19.eq_1, @r15.eq_1, @p20.eq_1, @r14.eq_1, @p21.eq_1, @r13.eq_1, @p22.eq_1, @r12.eq_1, @p23.eq_1, @r11.eq_1, @p24.eq_1⟩
theorem E2 : type_of% @r10.eq_1 ∧ type_of% @p25.eq_1 ∧ type_of% @r9.eq_1 ∧ type_of% @p26.eq_1 ∧ type_of% @r8.eq_1 ∧ type_of% @p27.eq_1 ∧ type_of% @r7.eq_1 ∧ type_of% @p28.eq_1 ∧ type_of% @r6.eq_1 ∧ type_of% @t6.eq_1 ∧ type_of% @p30.eq_1 ∧ type_of% @p29.eq_1 ∧ type_of% @r5.eq_1 ∧ type_of% @p31.eq_1 ∧ type_of% @r4.eq_1 ∧ type_of% @p33.eq_1 ∧ type_of% @p32.eq_1 ∧ type_of% @r3.eq_1 ∧ type_of% @p34.eq_1 ∧ type_of% @r2.eq_1 ∧ type_of% @p36.eq_1 ∧ type_of% @p35.eq_1 ∧ type_of% @r1.eq_1 ∧ type_of% @p37.eq_1 ∧ type_of% @r0.eq_1 ∧ type_of% @p38.eq_1 ∧ type_of% @s := ⟨@r10.eq_1, @p25.eq_1, @r9.eq_1, @p26.eq_1, @r8.eq_1, @p27.eq_1, @r7.eq_1, @p28.eq_1, @r6.eq_1, @t6.eq_1, @p30.eq_1, @p29.eq_1, @r5.eq_1, @p31.eq_1, @r4.eq_1, @p33.eq_1, @p32.eq_1, @r3.eq_1, @p34.eq_1, @r2.eq_1, @p36.eq_1, @p35.eq_1, @r1.eq_1, @p37.eq_1, @r0.eq_1, @p38.eq_1, @s⟩
theorem E : type_of% @E1 ∧ type_of% @E2 := ⟨@E1, @E2⟩
end math_bits_Div64
end Go.Proofs.Ytncmmbacoknefaa

/- RefA: The reference of wide: lists of words. What its functions return, as exact integers. -/
namespace Go.Proofs.Ytncmmbacoknefaa
open Go.ChangeShapes Go.WideShapes Go.ChangeAt Go.RowKit
set_option linter.unusedVariables false
set_option linter.unusedSimpArgs false
theorem trim_done {a : Option Addr} {cap k : Nat} {ws : List Int} (h4 : Ws ws) (hk : k ≤ ws.length) (hz : ∀ j, k ≤ j → ws.getD j 0 = 0) (hl : 0 < k → ws.getD (k - 1) 0 ≠ 0) :
    Ending.returned (.slice a k cap) = Ending.returned (.slice a (wl (VL ws)).length cap) := by rw [(wl_take h4 hk hz hl).2]
theorem rtrim_any (a : Option Addr) (len cap : Nat) (ws : List Int) (w : World) (h : SlU w (.slice a len cap) ws) :
    Calls Try.prog 127 #[.slice a len cap] w fun e w' => e = .returned (.slice a (wl (VL ws)).length cap) ∧ w = w' := by
  obtain ⟨a', len', cap', e, h1, h2, h3, h4, h5⟩ := h
  cases e
  have H5 := hid h5
  have H4 := hid h4
  clear h5 h4
  go_enter Try.func127, Try.ntmps127
  go_wp2
  go_loop [0] (fun s => ∃ k : Nat, k ≤ len ∧ s = .slice a k cap ∧ Hid (∀ j, k ≤ j → ws.getD j 0 = 0)) (fun s => slLen s)
  case atStart => exact ⟨len, Nat.le_refl _, rfl, hid (fun j hj => by rw [List.getD_eq_getElem?_getD, List.getElem?_eq_none (by omega)]; rfl)⟩
  case round =>
    obtain ⟨k, hk, rfl, hz⟩ := hrel
    rcases Nat.eq_zero_or_pos k with h0 | h0
    · subst h0
      go_wp2
      go_ret
      exact ⟨trim_done H4.out (by omega) hz.out (by omega), rfl⟩
    · obtain ⟨m, rfl⟩ : ∃ m, k = m + 1 := ⟨k - 1, by omega⟩
      obtain ⟨b, off, rfl, hlt, hcell⟩ := H5.out (by omega)
      have hc := hcell m (by omega)
      clear hcell
      have e1 : ((m + 1 : Nat) : Int) - 1 = (m : Int) := by omega
      by_cases hz0 : ws.getD m 0 = 0
      · rw [hz0] at hc
        have HZ0 := hid hz0
        clear hz0
        go_wp2
        all_goals
          go_round
          case rel => exact ⟨m, by omega, by simp, hid (fun j hj => (Nat.eq_or_lt_of_le hj).elim (fun e => e ▸ HZ0.out) (fun e => hz.out j e))⟩
          case measure => simp [slLen]
      · generalize hx : ws.getD m 0 = x at *
        have T : (x == 0) = false := beq_eq_false_iff_ne.2 hz0
        have HX := hid (And.intro hx hz0)
        clear hx hz0
        go_wp2
        go_ret
        exact ⟨trim_done H4.out (by omega) hz.out (fun _ => by simp only [Nat.add_sub_cancel]; rw [HX.out.1]; exact HX.out.2), rfl⟩
theorem info_u : ∃ i, Try.prog.info? 35 = some i ∧ i.zero = some (.int .u64 0) ∧ i.size = 1 ∧ i.bytes = 8 := by
  obtain ⟨i0, hi, hz0, hz1, hz2⟩ := info_parts info_u64
  exact ⟨i0, hi, hz0, hz1, hz2⟩
/-- A slice in new memory that is this number in canonical words. -/
def MagP (w : World) (m : Int) (e : Ending) (w' : World) : Prop := ∃ v, e = .returned v ∧ SlF w' w.heap.size v (wl m) ∧ Below w.heap.size w w'
theorem rof_any (n : Bool) (a b c d : Int) (ha : U64 a) (hb : U64 b) (hc : U64 c) (hd : U64 d) (w : World) :
    Calls Try.prog 73 #[WV n a b c d] w (MagP w (MV a b c d)) := by
  obtain ⟨i0, hi, hz0, hz1, hz2⟩ := info_u
  have hw : Ws [a, b, c, d] := by
    intro x hx
    simp at hx
    rcases hx with rfl | rfl | rfl | rfl <;> assumption
  have HW := hid hw
  clear hw ha hb hc hd
  go_enter Try.func73, Try.ntmps73
  go_wp2_with (at_builtin; (refine wpList_append_u (ws := []) (ms := [a, b, c, d]) (v := .slice (some ⟨w.heap.size + 1, 0, none⟩) 0 0) (src := .slice (some ⟨w.heap.size, 1, none⟩) 4 4) _ rfl (.tmp 3) (.tmp 5) 113 112 rfl w.heap.size Try.underlying113 Try.underlying112 hi hz0 hz1 hz2 rfl rfl ?own ?src ?small ?base ?_); rotate_right; intro v1 w1 hown hg hat)
  case own =>
    exact OwnU.empty (w.alloc _) _ rfl (by simp) (by simp)
  case src =>
    refine ⟨_, 4, 4, rfl, rfl, Nat.le_refl _, by decide, HW.out, fun _ => ⟨w.heap.size, 1, rfl, by go_size, fun i hi => ?_⟩⟩
    match i, hi with
    | 0, _ => simp [go_sem]
    | 1, _ => simp [go_sem]
    | 2, _ => simp [go_sem]
    | 3, _ => simp [go_sem]
  case small => simp
  case base => go_size
  have hb1 : Below w.heap.size w w1 := (((Below.refl _ w).alloc (Nat.le_refl _) _).alloc (by simp) _).grown hg (by simp; omega) (fun k e => by simp [Value.ownBlock] at e; omega)
  clear hg hat HW
  simp only [List.nil_append] at hown
  rcases hown.form with ⟨rfl, h0⟩ | ⟨g, cap, rfl, h1, h2, h3, h4, h5, h6⟩
  · simp at h0
  have hs := hown.sl
  have e : VL [a, b, c, d] = MV a b c d := VL4 a b c d
  clear h1 h2 h3 h4 h5 h6
  have H := hid (And.intro hs (And.intro hb1 e))
  have HC := hid (SlF.canon (base := w.heap.size) ⟨hs, hown.fr (by first | exact Nat.le_refl _ | (simp; done) | (simp; omega))⟩)
  clear hown hb1 e
  (repeat' (first | (go_big_may; (first | (go_at_call 127; refine (rtrim_any _ _ _ _ _ hs).mono ?_; rintro e w' ⟨rfl, rfl⟩))) | go_values | go_skip | go_guarded | go_step | go_upon | (simp only [Int.not_lt, Int.not_le] at *; go_simp) | (go_values <;> (try go_simp)) | (go_ite <;> go_prune <;> (try go_simp)) | (split <;> (first | (rename_i hx; exact (hx _ rfl).elim) | go_prune))))
  go_ret
  obtain ⟨hs, hb1, e⟩ := H.out
  have h2 := HC.out
  refine ⟨.slice (some ⟨g, 0, none⟩) (wl (VL [a, b, c, d])).length cap, rfl, ?_, hb1⟩
  rw [e] at h2 ⊢
  exact h2
/-- The cells of a Wide with these words. -/
def mcells (nb : Bool) (l : List Int) : Array Value := #[.bool nb, .int .u64 (l.getD 0 0), .int .u64 (l.getD 1 0), .int .u64 (l.getD 2 0), .int .u64 (l.getD 3 0)]
theorem mcells_nil (nb : Bool) : mcells nb [] = #[.bool nb, .int .u64 0, .int .u64 0, .int .u64 0, .int .u64 0] := rfl
theorem getD_takeD (ws : List Int) (i j : Nat) : (ws.take i).getD j 0 = if j < i then ws.getD j 0 else 0 := by
  rw [List.getD_eq_getElem?_getD, List.getD_eq_getElem?_getD, List.getElem?_take]
  split <;> rfl
theorem mcells_at (nb : Bool) (ws : List Int) {i : Nat} (h : i < 4) : (mcells nb (ws.take i))[1 + i]? = some (.int .u64 0) := by
  unfold mcells
  simp only [getD_takeD]
  match i, h with
  | 0, _ => simp
  | 1, _ => simp
  | 2, _ => simp
  | 3, _ => simp
theorem mcells_set (nb : Bool) (ws : List Int) {i : Nat} (h : i < 4) : (mcells nb (ws.take i)).setIfInBounds (1 + i) (.int .u64 (ws.getD i 0)) = mcells nb (ws.take (i + 1)) := by
  unfold mcells
  simp only [getD_takeD]
  match i, h with
  | 0, _ => simp
  | 1, _ => simp
  | 2, _ => simp
  | 3, _ => simp
theorem cn_pos (neg : Bool) {m : Int} (h0 : 0 ≤ m) (h : up4 m = 0) : cn neg (lb0 m) (lb1 m) (lb2 m) (lb3 m) = (neg && decide (0 < (wl m).length)) := by
  have e : mz (lb0 m) (lb1 m) (lb2 m) (lb3 m) = !decide (0 < (wl m).length) := by
    have h1 := mz_iff (lb0_in m) (lb1_in m) (lb2_in m) (lb3_in m)
    rw [mv_lb4 h] at h1
    by_cases hm : m = 0
    · rw [h1.2 hm, hm, wl_nil (Int.le_refl _)]; rfl
    · have h2 : (wl m).length ≠ 0 := fun h => wl_ne (show 0 < m by omega) (List.length_eq_zero_iff.1 h)
      have h3 : mz (lb0 m) (lb1 m) (lb2 m) (lb3 m) = false := by
        cases hz : mz (lb0 m) (lb1 m) (lb2 m) (lb3 m)
        · rfl
        · exact absurd (h1.1 hz) hm
      rw [h3]
      have h4 : decide (0 < (wl m).length) = true := dT (by omega)
      rw [h4]; rfl
  unfold cn; rw [e, Bool.not_not]
theorem we_mcells (neg : Bool) {m : Int} (h0 : 0 ≤ m) (h : up4 m = 0) : Value.agg (mcells (neg && decide (0 < (wl m).length)) (wl m)) = WE (sv neg m) := by
  obtain ⟨e0, e1, e2, e3, _⟩ := getD_wl4 h0 h
  rw [← sv_signed h0 h, cn_pos neg h0 h]
  unfold mcells
  rw [e0, e1, e2, e3]
set_option maxRecDepth 100000 in
theorem rwide_any (neg : Bool) (a : Option Addr) (len cap : Nat) (ws : List Int) (w : World) (h : SlU w (.slice a len cap) ws) :
    Calls Try.prog 74 #[.bool neg, .slice a len cap] w fun e w' => e = .returned (.tuple #[WE (cl (sv neg (VL ws))), .bool (fb (sv neg (VL ws)))]) ∧ Below w.heap.size w w' := by
  generalize hR : Value.tuple #[WE (cl (sv neg (VL ws))), .bool (fb (sv neg (VL ws)))] = R
  have HR := hid hR
  clear hR
  have hm := VL_nonneg h.ws
  have h' := h.alloc (.cells #[.bool false, .int .u64 0, .int .u64 0, .int .u64 0, .int .u64 0] 38 (0, 0))
  have hcan := h.canon
  have hlen := wl_fit hm
  have hlo := wl_words (VL ws)
  generalize hM : VL ws = m at *
  by_cases hu : up4 m = 0
  · have hl4 : (wl m).length ≤ 4 := hlen.2 hu
    have hf : Fits (sv neg m) := (fits_sv hm).2 hu
    have E := hid (And.intro ((we_mcells neg hm hu).trans (by rw [cl_fit hf]) : _ = WE (cl (sv neg m))) (by rw [fb_fit hf] : true = fb (sv neg m)))
    obtain ⟨a', len', cap', e, h1, h2, h3, h4, h5⟩ := hcan
    cases e
    have H5 := hid h5
    have HM := hid hM
    clear h5 hf hlen h4 h1 hM
    generalize hnb : (neg && decide (0 < (wl m).length)) = nb at *
    have HNB := hid hnb
    generalize hk : (wl m).length = k at *
    have HK := hid hk
    clear hk
    have hk' : decide ((4 : Int) < (k : Int)) = false := dF (by omega)
    cases neg
    · simp only [Bool.false_and, Bool.true_and] at hnb
      subst hnb
      go_enter Try.func74, Try.ntmps74
      go_wp2_with (go_at_call 127; refine (rtrim_any a len cap ws _ h').mono ?_; rintro e w' ⟨rfl, rfl⟩; rw [HM.out, HK.out])
      clear h'
      go_loopw [7] (fun s wr => ∃ i : Nat, i ≤ k ∧ s = .int .i64 i ∧ Below w.heap.size w wr ∧ w.heap.size + 2 ≤ wr.heap.size ∧ Bx wr w.heap.size #[.bool false, .int .u64 0, .int .u64 0, .int .u64 0, .int .u64 0] ∧ Bx wr (w.heap.size + 1) (mcells false ((wl m).take i))) (fun s _ => k - (intOf s).toNat)
      case atStart =>
        exact ⟨0, Nat.zero_le _, rfl, by (repeat' (first | (with_reducible assumption) | (with_reducible exact Below.refl _ _) | (with_reducible refine Below.alloc ?_ ?_ _) | (with_reducible refine Below.setCell ?_ ?_ _) | (with_reducible refine Below.drew ?_) | (with_reducible refine below_more ?_ (by with_reducible assumption)) | go_size | omega | (with_reducible refine below_drewN ?_))), by go_size, Bx.of (by (repeat' (first | (with_reducible assumption) | ((with_reducible refine HB.new _ _ _ ?_) <;> (go_size; done)) | (with_reducible refine HB.old (by go_size) ?_) | (with_reducible refine HB.drew ?_) | (with_reducible refine HB.over5 ?_) | (with_reducible refine HB.over4 ?_) | (with_reducible refine HB.setne (by first | go_size | (dsimp only; omega)) ?_) | (with_reducible refine HN.set ?_) | (with_reducible refine HN.setne (by first | go_size | (dsimp only; omega)) ?_) | (with_reducible refine HN.drew ?_) | (with_reducible refine HN.old (by go_size) ?_) | (with_reducible exact HN.of5 (by assumption)) | (with_reducible exact HN.new5 _ _ (by go_size)) | (with_reducible exact HN.of4 (by assumption)) | (with_reducible exact HN.new4 _ _ (by go_size))))), Bx.of (by rw [List.take_zero, mcells_nil]; (repeat' (first | (with_reducible assumption) | ((with_reducible refine HB.new _ _ _ ?_) <;> (go_size; done)) | (with_reducible refine HB.old (by go_size) ?_) | (with_reducible refine HB.drew ?_) | (with_reducible refine HB.over5 ?_) | (with_reducible refine HB.over4 ?_) | (with_reducible refine HB.setne (by first | go_size | (dsimp only; omega)) ?_) | (with_reducible refine HN.set ?_) | (with_reducible refine HN.setne (by first | go_size | (dsimp only; omega)) ?_) | (with_reducible refine HN.drew ?_) | (with_reducible refine HN.old (by go_size) ?_) | (with_reducible exact HN.of5 (by assumption)) | (with_reducible exact HN.new5 _ _ (by go_size)) | (with_reducible exact HN.of4 (by assumption)) | (with_reducible exact HN.new4 _ _ (by go_size)))))⟩
      case round =>
        obtain ⟨i, hi, rfl, hb0, hn0, ⟨B1, B1c, B1f, B1l⟩, ⟨B2, B2c, B2f, B2l⟩⟩ := hrel
        by_cases hlt : i < k
        · obtain ⟨b, off, rfl, hbl, hcell⟩ := H5.out (by omega)
          have hc := (hb0.cell (p := ⟨b, off + i, none⟩) hbl).trans (hcell i hlt)
          have hi4 : i < 4 := by omega
          have hm0 : wr.cell? ⟨w.heap.size + 1, 1 + i, none⟩ = some (.int .u64 0) := (B2c (1 + i)).trans (mcells_at _ _ hi4)
          clear hcell
          generalize hx : (wl m).getD i 0 = x at *
          have HX := hid hx
          clear hx B2c B1c
          go_wp2
          go_roundw
          case rel => exact ⟨i + 1, by omega, by go_num, by (repeat' (first | (with_reducible assumption) | (with_reducible exact Below.refl _ _) | (with_reducible refine Below.alloc ?_ ?_ _) | (with_reducible refine Below.setCell ?_ ?_ _) | (with_reducible refine Below.drew ?_) | (with_reducible refine below_more ?_ (by with_reducible assumption)) | go_size | omega | (with_reducible refine below_drewN ?_))), by (first | go_size | omega), Bx.of (by (repeat' (first | (with_reducible assumption) | ((with_reducible refine HB.new _ _ _ ?_) <;> (go_size; done)) | (with_reducible refine HB.old (by go_size) ?_) | (with_reducible refine HB.drew ?_) | (with_reducible refine HB.over5 ?_) | (with_reducible refine HB.over4 ?_) | (with_reducible refine HB.setne (by first | go_size | (dsimp only; omega)) ?_) | (with_reducible refine HN.set ?_) | (with_reducible refine HN.setne (by first | go_size | (dsimp only; omega)) ?_) | (with_reducible refine HN.drew ?_) | (with_reducible refine HN.old (by go_size) ?_) | (with_reducible exact HN.of5 (by assumption)) | (with_reducible exact HN.new5 _ _ (by go_size)) | (with_reducible exact HN.of4 (by assumption)) | (with_reducible exact HN.new4 _ _ (by go_size))))), Bx.of (HB.set B2 (by rw [← HX.out]; exact mcells_set _ _ hi4))⟩
          case measure => simp [intOf]; try omega
        · obtain rfl : i = k := by omega
          have E2 : mcells false ((wl m).take i) = mcells false (wl m) := by rw [List.take_of_length_le (by rw [HK.out]; exact Nat.le_refl _)]
          rw [E2] at B2 B2c
          clear E2
          have e0 : (mcells false (wl m))[0]? = some (.bool false) := rfl
          have e1 : (mcells false (wl m))[1]? = some (.int .u64 ((wl m).getD 0 0)) := rfl
          have e2 : (mcells false (wl m))[2]? = some (.int .u64 ((wl m).getD 1 0)) := rfl
          have e3 : (mcells false (wl m))[3]? = some (.int .u64 ((wl m).getD 2 0)) := rfl
          have e4 : (mcells false (wl m))[4]? = some (.int .u64 ((wl m).getD 3 0)) := rfl
          (repeat' (first | go_values | go_skip | go_guarded | go_step | go_upon | (simp only [Int.not_lt, Int.not_le] at *; go_simp) | (go_values <;> (try go_simp)) | (go_ite <;> go_prune <;> (try go_simp)) | (split <;> (first | (rename_i hx; exact (hx _ rfl).elim) | go_prune))))
          refine bodyPost_ret (v := .tuple #[_, .bool true]) ?_ rfl ⟨congrArg Ending.returned ((ret_w E.out.1 E.out.2).trans HR.out), by (repeat' (first | (with_reducible assumption) | (with_reducible exact Below.refl _ _) | (with_reducible refine Below.alloc ?_ ?_ _) | (with_reducible refine Below.setCell ?_ ?_ _) | (with_reducible refine Below.drew ?_) | (with_reducible refine below_more ?_ (by with_reducible assumption)) | go_size | omega | (with_reducible refine below_drewN ?_)))⟩
          simp [results, Try.results74, go_sem, B1c, B1f, B1l, mcells]
    · simp only [Bool.false_and, Bool.true_and] at hnb
      subst hnb
      go_enter Try.func74, Try.ntmps74
      go_wp2_with (go_at_call 127; refine (rtrim_any a len cap ws _ h').mono ?_; rintro e w' ⟨rfl, rfl⟩; rw [HM.out, HK.out])
      clear h'
      go_loopw [7] (fun s wr => ∃ i : Nat, i ≤ k ∧ s = .int .i64 i ∧ Below w.heap.size w wr ∧ w.heap.size + 2 ≤ wr.heap.size ∧ Bx wr w.heap.size #[.bool false, .int .u64 0, .int .u64 0, .int .u64 0, .int .u64 0] ∧ Bx wr (w.heap.size + 1) (mcells (decide (0 < k)) ((wl m).take i))) (fun s _ => k - (intOf s).toNat)
      case atStart =>
        exact ⟨0, Nat.zero_le _, rfl, by (repeat' (first | (with_reducible assumption) | (with_reducible exact Below.refl _ _) | (with_reducible refine Below.alloc ?_ ?_ _) | (with_reducible refine Below.setCell ?_ ?_ _) | (with_reducible refine Below.drew ?_) | (with_reducible refine below_more ?_ (by with_reducible assumption)) | go_size | omega | (with_reducible refine below_drewN ?_))), by go_size, Bx.of (by (repeat' (first | (with_reducible assumption) | ((with_reducible refine HB.new _ _ _ ?_) <;> (go_size; done)) | (with_reducible refine HB.old (by go_size) ?_) | (with_reducible refine HB.drew ?_) | (with_reducible refine HB.over5 ?_) | (with_reducible refine HB.over4 ?_) | (with_reducible refine HB.setne (by first | go_size | (dsimp only; omega)) ?_) | (with_reducible refine HN.set ?_) | (with_reducible refine HN.setne (by first | go_size | (dsimp only; omega)) ?_) | (with_reducible refine HN.drew ?_) | (with_reducible refine HN.old (by go_size) ?_) | (with_reducible exact HN.of5 (by assumption)) | (with_reducible exact HN.new5 _ _ (by go_size)) | (with_reducible exact HN.of4 (by assumption)) | (with_reducible exact HN.new4 _ _ (by go_size))))), Bx.of (by rw [List.take_zero, mcells_nil]; (repeat' (first | (with_reducible assumption) | ((with_reducible refine HB.new _ _ _ ?_) <;> (go_size; done)) | (with_reducible refine HB.old (by go_size) ?_) | (with_reducible refine HB.drew ?_) | (with_reducible refine HB.over5 ?_) | (with_reducible refine HB.over4 ?_) | (with_reducible refine HB.setne (by first | go_size | (dsimp only; omega)) ?_) | (with_reducible refine HN.set ?_) | (with_reducible refine HN.setne (by first | go_size | (dsimp only; omega)) ?_) | (with_reducible refine HN.drew ?_) | (with_reducible refine HN.old (by go_size) ?_) | (with_reducible exact HN.of5 (by assumption)) | (with_reducible exact HN.new5 _ _ (by go_size)) | (with_reducible exact HN.of4 (by assumption)) | (with_reducible exact HN.new4 _ _ (by go_size)))))⟩
      case round =>
        obtain ⟨i, hi, rfl, hb0, hn0, ⟨B1, B1c, B1f, B1l⟩, ⟨B2, B2c, B2f, B2l⟩⟩ := hrel
        by_cases hlt : i < k
        · obtain ⟨b, off, rfl, hbl, hcell⟩ := H5.out (by omega)
          have hc := (hb0.cell (p := ⟨b, off + i, none⟩) hbl).trans (hcell i hlt)
          have hi4 : i < 4 := by omega
          have hm0 : wr.cell? ⟨w.heap.size + 1, 1 + i, none⟩ = some (.int .u64 0) := (B2c (1 + i)).trans (mcells_at _ _ hi4)
          clear hcell
          generalize hx : (wl m).getD i 0 = x at *
          have HX := hid hx
          clear hx B2c B1c
          go_wp2
          go_roundw
          case rel => exact ⟨i + 1, by omega, by go_num, by (repeat' (first | (with_reducible assumption) | (with_reducible exact Below.refl _ _) | (with_reducible refine Below.alloc ?_ ?_ _) | (with_reducible refine Below.setCell ?_ ?_ _) | (with_reducible refine Below.drew ?_) | (with_reducible refine below_more ?_ (by with_reducible assumption)) | go_size | omega | (with_reducible refine below_drewN ?_))), by (first | go_size | omega), Bx.of (by (repeat' (first | (with_reducible assumption) | ((with_reducible refine HB.new _ _ _ ?_) <;> (go_size; done)) | (with_reducible refine HB.old (by go_size) ?_) | (with_reducible refine HB.drew ?_) | (with_reducible refine HB.over5 ?_) | (with_reducible refine HB.over4 ?_) | (with_reducible refine HB.setne (by first | go_size | (dsimp only; omega)) ?_) | (with_reducible refine HN.set ?_) | (with_reducible refine HN.setne (by first | go_size | (dsimp only; omega)) ?_) | (with_reducible refine HN.drew ?_) | (with_reducible refine HN.old (by go_size) ?_) | (with_reducible exact HN.of5 (by assumption)) | (with_reducible exact HN.new5 _ _ (by go_size)) | (with_reducible exact HN.of4 (by assumption)) | (with_reducible exact HN.new4 _ _ (by go_size))))), Bx.of (HB.set B2 (by rw [← HX.out]; exact mcells_set _ _ hi4))⟩
          case measure => simp [intOf]; try omega
        · obtain rfl : i = k := by omega
          have E2 : mcells (decide (0 < i)) ((wl m).take i) = mcells (decide (0 < i)) (wl m) := by rw [List.take_of_length_le (by rw [HK.out]; exact Nat.le_refl _)]
          rw [E2] at B2 B2c
          clear E2
          have e0 : (mcells (decide (0 < i)) (wl m))[0]? = some (.bool (decide (0 < i))) := rfl
          have e1 : (mcells (decide (0 < i)) (wl m))[1]? = some (.int .u64 ((wl m).getD 0 0)) := rfl
          have e2 : (mcells (decide (0 < i)) (wl m))[2]? = some (.int .u64 ((wl m).getD 1 0)) := rfl
          have e3 : (mcells (decide (0 < i)) (wl m))[3]? = some (.int .u64 ((wl m).getD 2 0)) := rfl
          have e4 : (mcells (decide (0 < i)) (wl m))[4]? = some (.int .u64 ((wl m).getD 3 0)) := rfl
          (repeat' (first | go_values | go_skip | go_guarded | go_step | go_upon | (simp only [Int.not_lt, Int.not_le] at *; go_simp) | (go_values <;> (try go_simp)) | (go_ite <;> go_prune <;> (try go_simp)) | (split <;> (first | (rename_i hx; exact (hx _ rfl).elim) | go_prune))))
          refine bodyPost_ret (v := .tuple #[_, .bool true]) ?_ rfl ⟨congrArg Ending.returned ((ret_w E.out.1 E.out.2).trans HR.out), by (repeat' (first | (with_reducible assumption) | (with_reducible exact Below.refl _ _) | (with_reducible refine Below.alloc ?_ ?_ _) | (with_reducible refine Below.setCell ?_ ?_ _) | (with_reducible refine Below.drew ?_) | (with_reducible refine below_more ?_ (by with_reducible assumption)) | go_size | omega | (with_reducible refine below_drewN ?_)))⟩
          simp [results, Try.results74, go_sem, B1c, B1f, B1l, mcells]
  · have hf : ¬Fits (sv neg m) := fun h => hu ((fits_sv hm).1 h)
    have E := hid (And.intro (we_zero.symm.trans (by rw [cl_not hf]) : WV false 0 0 0 0 = WE (cl (sv neg m))) (by rw [fb_not hf] : false = fb (sv neg m)))
    have hl4 : 4 < (wl m).length := by
      rcases Nat.lt_or_ge 4 (wl m).length with h | h
      · exact h
      · exact absurd (hlen.1 h) hu
    have HM := hid hM
    clear hf hlen hM hcan h hu
    generalize hk : (wl m).length = k at *
    have HK := hid hk
    clear hk
    have hk' : decide ((4 : Int) < (k : Int)) = true := dT (by omega)
    go_enter Try.func74, Try.ntmps74
    (repeat' (first | (go_big_may; (first | (go_at_call 127; refine (rtrim_any a len cap ws _ h').mono ?_; rintro e w' ⟨rfl, rfl⟩; rw [HM.out, HK.out]))) | go_values | go_skip | go_guarded | go_step | go_upon | (simp only [Int.not_lt, Int.not_le] at *; go_simp) | (go_values <;> (try go_simp)) | (go_ite <;> go_prune <;> (try go_simp)) | (split <;> (first | (rename_i hx; exact (hx _ rfl).elim) | go_prune))))
    refine bodyPost_ret (v := .tuple #[WV false 0 0 0 0, .bool false]) ?_ rfl ⟨congrArg Ending.returned ((ret_w E.out.1 E.out.2).trans HR.out), by (repeat' (first | (with_reducible assumption) | (with_reducible exact Below.refl _ _) | (with_reducible refine Below.alloc ?_ ?_ _) | (with_reducible refine Below.setCell ?_ ?_ _) | (with_reducible refine Below.drew ?_) | (with_reducible refine below_more ?_ (by with_reducible assumption)) | go_size | omega | (with_reducible refine below_drewN ?_)))⟩
    simp [results, Try.results74, go_sem]
def Eqs (A B : List Int) (i : Nat) : Prop := ∀ j, i ≤ j → A.getD j 0 = B.getD j 0
theorem drewN_two (w : World) (a b : Nat) : (w.drewN a).drewN b = w.drewN (a + b) := by simp [World.drewN, Nat.add_assoc]
set_option maxRecDepth 100000 in
theorem rcompare_any (a a' : Option Addr) (len cap len' cap' : Nat) (m n : Int) (hm : 0 ≤ m) (hn : 0 ≤ n) (w : World) (h : SlU w (.slice a len cap) (wl m)) (h' : SlU w (.slice a' len' cap') (wl n)) :
    Calls Try.prog 76 #[.slice a len cap, .slice a' len' cap'] w fun e w' => e = .returned (.int .i64 (cm m n)) ∧ ∃ d, w' = w.drewN d := by
  obtain ⟨a0, l0, c0, e, h1, h2, h3, h4, h5⟩ := h
  cases e
  obtain ⟨a1, l1, c1, e, g1, g2, g3, g4, g5⟩ := h'
  cases e
  generalize hR : cm m n = R
  have HR := hid hR
  clear hR
  by_cases hl : len = len'
  · subst hl
    have eA := VL_wl hm
    have eB := VL_wl hn
    have H5 := hid (And.intro h5 g5)
    have H4 := hid (And.intro (And.intro h1 g1) (And.intro (And.intro eA eB) (And.intro h4 g4)))
    clear h5 g5 h4 g4 h1 g1 eA eB
    generalize wl m = A at *
    generalize wl n = B at *
    have tl : decide ((len : Int) < (len : Int)) = false := dF (by omega)
    go_enter Try.func76, Try.ntmps76
    go_wp2
    go_loopw [5] (fun s wr => ∃ (i d : Nat), i ≤ len ∧ s = .int .i64 ((i : Int) - 1) ∧ wr = w.drewN d ∧ Hid (Eqs A B i)) (fun s _ => (intOf s + 1).toNat)
    case atStart => exact ⟨len, 0, Nat.le_refl _, rfl, rfl, hid (fun j hj => by rw [List.getD_eq_getElem?_getD, List.getD_eq_getElem?_getD, List.getElem?_eq_none (by rw [H4.out.1.1]; exact hj), List.getElem?_eq_none (by rw [H4.out.1.2]; exact hj)])⟩
    case round =>
      obtain ⟨i, d, hi, rfl, rfl, he⟩ := hrel
      rcases Nat.eq_zero_or_pos i with h0 | h0
      · subst h0
        go_wp2
        go_ret
        obtain ⟨⟨l1, l2⟩, ⟨e1, e2⟩, _⟩ := H4.out
        have := VL_same (l1.trans l2.symm) (fun j => he.out j (Nat.zero_le _))
        refine ⟨?_, d, rfl⟩
        rw [← HR.out]
        rw [this, e2] at e1
        rw [← e1, cm_eq]; rfl
      · obtain ⟨q, rfl⟩ : ∃ q, i = q + 1 := ⟨i - 1, by omega⟩
        have hql : q < len := by omega
        obtain ⟨⟨l1, l2⟩, ⟨e1, e2⟩, w1, w2⟩ := H4.out
        obtain ⟨b, off, rfl, hbl, hcell⟩ := H5.out.1 (by omega)
        obtain ⟨b', off', rfl, hbl', hcell'⟩ := H5.out.2 (by omega)
        have hc := hcell q hql
        have hc' := hcell' q hql
        clear hcell hcell' H5
        have T3 : A.getD q 0 < B.getD q 0 → cm m n = -1 := fun h => by
          have := VL_top w1 w2 (l1.trans l2.symm) (by omega) (fun j hj => he.out j hj) h
          rw [e1, e2] at this; exact cm_lt this
        have T4 : B.getD q 0 < A.getD q 0 → cm m n = 1 := fun h => by
          have := VL_top w2 w1 (l2.trans l1.symm) (by omega) (fun j hj => (he.out j hj).symm) h
          rw [e1, e2] at this; exact cm_gt this
        have T5 : A.getD q 0 = B.getD q 0 → Eqs A B q := fun h j hj => (Nat.eq_or_lt_of_le hj).elim (fun e => e ▸ h) (fun e => he.out j e)
        generalize A.getD q 0 = x at *
        generalize B.getD q 0 = y at *
        have H3 := hid (And.intro T3 (And.intro T4 T5))
        clear T3 T4 T5 l1 l2 e1 e2 w1 w2 H4
        have e1 : ((q + 1 : Nat) : Int) - 1 = (q : Int) := by omega
        have hq0 : (0 : Int) ≤ (q : Int) := Int.natCast_nonneg _
        have hq1 : (q : Int) < (len : Int) := by omega
        simp only [e1]
        clear e1
        rcases Int.lt_trichotomy x y with hxy | hxy | hxy
        · have t1 : decide (x < y) = true := dT hxy
          go_wp2
          go_quiet (fail)
          go_wp2
          go_ret
          exact ⟨ret_i (by rw [← HR.out, H3.out.1 hxy]), _, drewN_two _ _ _⟩
        · subst hxy
          have t1 : decide (x < x) = false := dF (by omega)
          go_wp2
          go_quiet (fail)
          go_wp2
          go_quiet (fail)
          go_wp2
          go_roundw
          case rel => exact ⟨q, _, by omega, rfl, rfl, hid (H3.out.2.2 (by trivial))⟩
          case measure => simp [intOf]; try omega
        · have t1 : decide (x < y) = false := dF (by omega)
          have t2 : decide (y < x) = true := dT hxy
          go_wp2
          go_quiet (fail)
          go_wp2
          go_quiet (fail)
          go_wp2
          go_ret
          exact ⟨ret_i (by rw [← HR.out, H3.out.2.1 hxy]), _, by rw [drewN_two, drewN_two]⟩
  · have T3 : len < len' → cm m n = -1 := fun h => cm_lt (wl_lt_of_len hm hn (by rw [h1, g1]; exact h))
    have T4 : len' < len → cm m n = 1 := fun h => cm_gt (wl_lt_of_len hn hm (by rw [h1, g1]; exact h))
    have H3 := hid (And.intro T3 T4)
    clear T3 T4 h5 g5 h4 g4 h1 g1
    have t0 : ((len : Int) != (len' : Int)) = true := bne_iff_ne.2 (by omega)
    rcases Nat.lt_or_ge len len' with hlt | hge
    · have t1 : decide (len < len') = true := dT hlt
      have t2 : decide ((len : Int) < (len' : Int)) = true := dT (by omega)
      go_enter Try.func76, Try.ntmps76
      go_wp2
      go_ret
      exact ⟨ret_i (by rw [← HR.out, H3.out.1 hlt]), 0, rfl⟩
    · have hlt : len' < len := by omega
      have t1 : decide (len < len') = false := dF (by omega)
      have t2 : decide ((len : Int) < (len' : Int)) = false := dF (by omega)
      go_enter Try.func76, Try.ntmps76
      go_wp2
      go_ret
      exact ⟨ret_i (by rw [← HR.out, H3.out.2 hlt]), 0, rfl⟩
end Go.Proofs.Ytncmmbacoknefaa

/- WideM: The package wide: the product of absolute values. -/
namespace Go.Proofs.Ytncmmbacoknefaa
open Go.ChangeShapes Go.WideShapes Go.ChangeAt Go.RowKit
set_option linter.unusedVariables false
set_option linter.unusedSimpArgs false
theorem wmul64_any (x y : Int) (hx : U64 x) (hy : U64 y) (w : World) :
    Calls Try.prog 158 #[.int .u64 x, .int .u64 y] w fun e w' => e = .returned (.tuple #[.int .u64 (hi64 x y), .int .u64 (lo64 x y)]) ∧ w = w' := by
  obtain ⟨x1, x2⟩ := hx; obtain ⟨y1, y2⟩ := hy
  obtain ⟨n, rfl⟩ := Int.eq_ofNat_of_zero_le x1
  obtain ⟨m, rfl⟩ := Int.eq_ofNat_of_zero_le y1
  refine (Try.bits_Mul64 n m (by omega) (by omega) w).mono ?_
  rintro e w' ⟨rfl, rfl⟩
  exact ⟨by rw [hilo_nat n m, lo_nat n m], rfl⟩
theorem mstep {x y acc cy : Int} (hx : U64 x) (hy : U64 y) (ha : U64 acc) (hc : U64 cy) : ∃ r0 c0 h1 r1 c1 cy' : Int, U64 r1 ∧ U64 cy' ∧ r1 + 18446744073709551616 * cy' = x * y + acc + cy ∧ IntKind.u64.wrap (hi64 x y + c0) = h1 ∧ IntKind.u64.wrap (h1 + c1) = cy' ∧
    (∀ W, (callFunc 128 #[.int .u64 acc, .int .u64 (lo64 x y), .int .u64 0]).run Try.prog W = .ok (.value (.tuple #[.int .u64 r0, .int .u64 c0])) W) ∧
    (∀ W, (callFunc 128 #[.int .u64 r0, .int .u64 cy, .int .u64 0]).run Try.prog W = .ok (.value (.tuple #[.int .u64 r1, .int .u64 c1])) W) := by
  have hl : U64 (lo64 x y) := ⟨by unfold lo64; omega, by unfold lo64; omega⟩
  have hr : U64 (s64 acc (lo64 x y) 0) := s64_in _ _ _
  have e : lo64 x y + 18446744073709551616 * hi64 x y = x * y := by unfold lo64 hi64; omega
  have hp : 0 ≤ x * y := Int.mul_nonneg hx.1 hy.1
  have hp2 : x * y ≤ 18446744073709551615 * 18446744073709551615 := Int.mul_le_mul (by have := hx.2; omega) (by have := hy.2; omega) hy.1 (by decide)
  have b1 := c64_bit ha hl Bit.zero
  have b2 := c64_bit hr hc Bit.zero
  have e1 : s64 acc (lo64 x y) 0 + 18446744073709551616 * c64 acc (lo64 x y) 0 = acc + lo64 x y := by unfold s64 c64; omega
  have e2 : s64 (s64 acc (lo64 x y) 0) cy 0 + 18446744073709551616 * c64 (s64 acc (lo64 x y) 0) cy 0 = s64 acc (lo64 x y) 0 + cy := by unfold s64 c64; omega
  have A1 := fun W => add64 ha hl Bit.zero W
  have A2 := fun W => add64 hr hc Bit.zero W
  have hr1 : U64 (s64 (s64 acc (lo64 x y) 0) cy 0) := s64_in _ _ _
  generalize s64 (s64 acc (lo64 x y) 0) cy 0 = r1 at *
  generalize c64 (s64 acc (lo64 x y) 0) cy 0 = c1 at *
  generalize s64 acc (lo64 x y) 0 = r0 at *
  generalize c64 acc (lo64 x y) 0 = c0 at *
  have hh : 0 ≤ hi64 x y := by unfold hi64; omega
  obtain ⟨x1, x2⟩ := hr1; obtain ⟨y1, y2⟩ := ha; obtain ⟨z1, z2⟩ := hc; obtain ⟨u1, u2⟩ := b1; obtain ⟨v1, v2⟩ := b2; obtain ⟨l1, l2⟩ := hl; obtain ⟨s1, s2⟩ := hr
  generalize hi64 x y = h at *
  generalize lo64 x y = l at *
  generalize x * y = p at *
  have k : r1 + 18446744073709551616 * (h + c0 + c1) = p + acc + cy := by omega
  have k1 : h + c0 + c1 < 18446744073709551616 := by omega
  have w1 : IntKind.u64.wrap (h + c0) = h + c0 := u64_wrap_id _ ⟨by omega, by omega⟩
  have w2 : IntKind.u64.wrap (h + c0 + c1) = h + c0 + c1 := u64_wrap_id _ ⟨by omega, by omega⟩
  exact ⟨r0, c0, h + c0, r1, c1, h + c0 + c1, ⟨x1, x2⟩, ⟨by omega, by omega⟩, k, w1, w2, A1, A2⟩
/-- A row of the product. -/
theorem mrow {x b0 b1 b2 b3 v0 v1 v2 v3 r0 r1 r2 r3 c1 c2 c3 c4 : Int} (e0 : r0 + 18446744073709551616 * c1 = x * b0 + v0 + 0) (e1 : r1 + 18446744073709551616 * c2 = x * b1 + v1 + c1) (e2 : r2 + 18446744073709551616 * c3 = x * b2 + v2 + c2) (e3 : r3 + 18446744073709551616 * c4 = x * b3 + v3 + c3) :
    r0 + 18446744073709551616 * MV r1 r2 r3 c4 = x * MV b0 b1 b2 b3 + MV v0 v1 v2 v3 := by
  have D : ∀ u v : Int, x * (u + 18446744073709551616 * v) = x * u + 18446744073709551616 * (x * v) := fun u v => by rw [Int.mul_add, Int.mul_left_comm]
  have R : ∀ a b c d : Int, a + 18446744073709551616 * b + (c + 18446744073709551616 * d) = (a + c) + 18446744073709551616 * (b + d) := fun a b c d => by omega
  unfold MV
  rw [D, D, D, R, R, R]
  generalize x * b0 = p0 at *
  generalize x * b1 = p1 at *
  generalize x * b2 = p2 at *
  generalize x * b3 = p3 at *
  rw [e3]
  have s2 : r2 + 18446744073709551616 * (p3 + v3 + c3) = (p2 + v2 + 18446744073709551616 * (p3 + v3)) + c2 := by omega
  rw [s2]
  generalize p2 + v2 + 18446744073709551616 * (p3 + v3) = q2
  have s1 : r1 + 18446744073709551616 * (q2 + c2) = (p1 + v1 + 18446744073709551616 * q2) + c1 := by omega
  rw [s1]
  generalize p1 + v1 + 18446744073709551616 * q2 = q1
  omega
/-- The product from its rows. -/
theorem mrows {a0 a1 a2 a3 N l0 l1 l2 l3 U1 U2 U3 H : Int} (t0 : l0 + 18446744073709551616 * U1 = a0 * N + 0) (t1 : l1 + 18446744073709551616 * U2 = a1 * N + U1) (t2 : l2 + 18446744073709551616 * U3 = a2 * N + U2) (t3 : l3 + 18446744073709551616 * H = a3 * N + U3) :
    MV a0 a1 a2 a3 * N = l0 + 18446744073709551616 * (l1 + 18446744073709551616 * (l2 + 18446744073709551616 * (l3 + 18446744073709551616 * H))) := by
  have D : ∀ u v : Int, (u + 18446744073709551616 * v) * N = u * N + 18446744073709551616 * (v * N) := fun u v => by rw [Int.add_mul, Int.mul_assoc]
  unfold MV
  rw [D, D, D, t3]
  generalize a0 * N = p0 at *
  generalize a1 * N = p1 at *
  generalize a2 * N = p2 at *
  generalize a3 * N = p3 at *
  have s2 : l2 + 18446744073709551616 * (p3 + U3) = (p2 + 18446744073709551616 * p3) + U2 := by omega
  rw [s2]
  generalize p2 + 18446744073709551616 * p3 = q2
  have s1 : l1 + 18446744073709551616 * (q2 + U2) = (p1 + 18446744073709551616 * q2) + U1 := by omega
  rw [s1]
  generalize p1 + 18446744073709551616 * q2 = q1
  omega
theorem mwords {l0 l1 l2 l3 H : Int} (h0 : U64 l0) (h1 : U64 l1) (h2 : U64 l2) (h3 : U64 l3) :
    lb0 (l0 + 18446744073709551616 * (l1 + 18446744073709551616 * (l2 + 18446744073709551616 * (l3 + 18446744073709551616 * H)))) = l0 ∧ lb1 (l0 + 18446744073709551616 * (l1 + 18446744073709551616 * (l2 + 18446744073709551616 * (l3 + 18446744073709551616 * H)))) = l1 ∧
    lb2 (l0 + 18446744073709551616 * (l1 + 18446744073709551616 * (l2 + 18446744073709551616 * (l3 + 18446744073709551616 * H)))) = l2 ∧ lb3 (l0 + 18446744073709551616 * (l1 + 18446744073709551616 * (l2 + 18446744073709551616 * (l3 + 18446744073709551616 * H)))) = l3 ∧
    up4 (l0 + 18446744073709551616 * (l1 + 18446744073709551616 * (l2 + 18446744073709551616 * (l3 + 18446744073709551616 * H)))) = H := by
  refine ⟨?_, ?_, ?_, ?_, ?_⟩
  · rw [lb0_add, lb0_id h0]
  · unfold lb1; rw [up1_add, up1_id h0, Int.zero_add, lb0_add, lb0_id h1]
  · unfold lb2; rw [up1_add, up1_id h0, Int.zero_add, up1_add, up1_id h1, Int.zero_add, lb0_add, lb0_id h2]
  · unfold lb3; rw [up1_add, up1_id h0, Int.zero_add, up1_add, up1_id h1, Int.zero_add, up1_add, up1_id h2, Int.zero_add, lb0_add, lb0_id h3]
  · unfold up4; rw [up1_add, up1_id h0, Int.zero_add, up1_add, up1_id h1, Int.zero_add, up1_add, up1_id h2, Int.zero_add, up1_add, up1_id h3, Int.zero_add]
theorem copy4 (b g : Nat) {l0 l1 l2 l3 l4 l5 l6 l7 : Int} {W : World} (hd : HN W b 4) (hs : HB W g #[.int .u64 l0, .int .u64 l1, .int .u64 l2, .int .u64 l3, .int .u64 l4, .int .u64 l5, .int .u64 l6, .int .u64 l7]) :
    (Builtin.copy_ #[112, 112] 3 #[.slice (some ⟨b, 0, none⟩) 4 4, .slice (some ⟨g, 0, none⟩) 4 8]).run Try.prog W = .ok (.int .i64 4) ((((W.setCell ⟨b, 0, none⟩ (.int .u64 l0)).setCell ⟨b, 1, none⟩ (.int .u64 l1)).setCell ⟨b, 2, none⟩ (.int .u64 l2)).setCell ⟨b, 3, none⟩ (.int .u64 l3)) := by
  have hb := Bx.of hs
  refine (run_copy_cells W _ _ _ 35 b 0 4 4 ⟨g, 0, none⟩ 4 8 [.int .u64 l0, .int .u64 l1, .int .u64 l2, .int .u64 l3] Try.underlying112 (by kernel_rfl) rfl ?_ ?_ ?_ ?_).trans rfl
  · intro j v hv
    have e : (⟨g, 0, none⟩ : Addr).add j = ⟨g, j, none⟩ := by
      unfold Addr.add
      by_cases h : j = 0
      · rw [if_pos h, h]
      · rw [if_neg h]; simp
    rw [e, hb.2.1 j]
    match j, hv with
    | 0, hv => exact hv
    | 1, hv => exact hv
    | 2, hv => exact hv
    | 3, hv => exact hv
    | j + 4, hv => simp at hv
  · intro j hj
    have hj' : j < 4 := hj
    rw [Nat.zero_add, hd.cell hj']; rfl
  · intro j hj
    exact hd.froz _
  · intro v hv
    simp at hv
    rcases hv with rfl | rfl | rfl | rfl <;> rfl
theorem arr4 (g o : Nat) (W : World) : (Instr.arrayAt 36 (.slice (some ⟨g, o, none⟩) 4 4)).run Try.prog W = .ok (.pointer (some ⟨g, o, none⟩)) W := by
  simp [Instr.arrayAt, run_underlying Try.underlying36, go_sem]
theorem mz_b {a b c d : Int} (h : U64 a) (h1 : U64 b) (h2 : U64 c) (h3 : U64 d) : (MV a b c d == 0) = mz a b c d := by
  cases e : mz a b c d
  · refine beq_eq_false_iff_ne.2 fun h0 => ?_
    rw [(mz_iff h h1 h2 h3).2 h0] at e; cases e
  · exact beq_iff_eq.2 ((mz_iff h h1 h2 h3).1 e)
theorem idx4 (a b c d : Int) (W : World) :
    (Instr.index 36 (MG a b c d) (.int .i64 0)).run Try.prog W = .ok (.int .u64 a) W ∧ (Instr.index 36 (MG a b c d) (.int .i64 1)).run Try.prog W = .ok (.int .u64 b) W ∧
    (Instr.index 36 (MG a b c d) (.int .i64 2)).run Try.prog W = .ok (.int .u64 c) W ∧ (Instr.index 36 (MG a b c d) (.int .i64 3)).run Try.prog W = .ok (.int .u64 d) W := by
  have h := Try.underlying36
  refine ⟨?_, ?_, ?_, ?_⟩ <;> simp [Instr.index, run_underlying h, asIntOf, go_sem]
set_option maxHeartbeats 8000000 in
set_option maxRecDepth 100000 in
theorem wmul_any (a0 a1 a2 a3 b0 b1 b2 b3 : Int) (ha0 : U64 a0) (ha1 : U64 a1) (ha2 : U64 a2) (ha3 : U64 a3) (hb0 : U64 b0) (hb1 : U64 b1) (hb2 : U64 b2) (hb3 : U64 b3) (w : World) :
    Calls Try.prog 161 #[MG a0 a1 a2 a3, MG b0 b1 b2 b3] w fun e w' => e = .returned (.tuple #[MG (lb0 (MV a0 a1 a2 a3 * MV b0 b1 b2 b3)) (lb1 (MV a0 a1 a2 a3 * MV b0 b1 b2 b3)) (lb2 (MV a0 a1 a2 a3 * MV b0 b1 b2 b3)) (lb3 (MV a0 a1 a2 a3 * MV b0 b1 b2 b3)), .bool (up4 (MV a0 a1 a2 a3 * MV b0 b1 b2 b3) == 0)]) ∧ Below w.heap.size w w' := by
  obtain ⟨p00, q00, h00, r00, d00, c00, ur00, uc00, e00, w00, x00, A00, B00⟩ := mstep ha0 hb0 U64.zero U64.zero
  have X00 := hid (And.intro w00 (And.intro x00 (And.intro A00 B00)))
  clear w00 x00 A00 B00
  obtain ⟨p01, q01, h01, r01, d01, c01, ur01, uc01, e01, w01, x01, A01, B01⟩ := mstep ha0 hb1 U64.zero uc00
  have X01 := hid (And.intro w01 (And.intro x01 (And.intro A01 B01)))
  clear w01 x01 A01 B01
  obtain ⟨p02, q02, h02, r02, d02, c02, ur02, uc02, e02, w02, x02, A02, B02⟩ := mstep ha0 hb2 U64.zero uc01
  have X02 := hid (And.intro w02 (And.intro x02 (And.intro A02 B02)))
  clear w02 x02 A02 B02
  obtain ⟨p03, q03, h03, r03, d03, c03, ur03, uc03, e03, w03, x03, A03, B03⟩ := mstep ha0 hb3 U64.zero uc02
  have X03 := hid (And.intro w03 (And.intro x03 (And.intro A03 B03)))
  clear w03 x03 A03 B03
  have R0 := mrow e00 e01 e02 e03
  obtain ⟨p10, q10, h10, r10, d10, c10, ur10, uc10, e10, w10, x10, A10, B10⟩ := mstep ha1 hb0 ur01 U64.zero
  have X10 := hid (And.intro w10 (And.intro x10 (And.intro A10 B10)))
  clear w10 x10 A10 B10
  obtain ⟨p11, q11, h11, r11, d11, c11, ur11, uc11, e11, w11, x11, A11, B11⟩ := mstep ha1 hb1 ur02 uc10
  have X11 := hid (And.intro w11 (And.intro x11 (And.intro A11 B11)))
  clear w11 x11 A11 B11
  obtain ⟨p12, q12, h12, r12, d12, c12, ur12, uc12, e12, w12, x12, A12, B12⟩ := mstep ha1 hb2 ur03 uc11
  have X12 := hid (And.intro w12 (And.intro x12 (And.intro A12 B12)))
  clear w12 x12 A12 B12
  obtain ⟨p13, q13, h13, r13, d13, c13, ur13, uc13, e13, w13, x13, A13, B13⟩ := mstep ha1 hb3 uc03 uc12
  have X13 := hid (And.intro w13 (And.intro x13 (And.intro A13 B13)))
  clear w13 x13 A13 B13
  have R1 := mrow e10 e11 e12 e13
  obtain ⟨p20, q20, h20, r20, d20, c20, ur20, uc20, e20, w20, x20, A20, B20⟩ := mstep ha2 hb0 ur11 U64.zero
  have X20 := hid (And.intro w20 (And.intro x20 (And.intro A20 B20)))
  clear w20 x20 A20 B20
  obtain ⟨p21, q21, h21, r21, d21, c21, ur21, uc21, e21, w21, x21, A21, B21⟩ := mstep ha2 hb1 ur12 uc20
  have X21 := hid (And.intro w21 (And.intro x21 (And.intro A21 B21)))
  clear w21 x21 A21 B21
  obtain ⟨p22, q22, h22, r22, d22, c22, ur22, uc22, e22, w22, x22, A22, B22⟩ := mstep ha2 hb2 ur13 uc21
  have X22 := hid (And.intro w22 (And.intro x22 (And.intro A22 B22)))
  clear w22 x22 A22 B22
  obtain ⟨p23, q23, h23, r23, d23, c23, ur23, uc23, e23, w23, x23, A23, B23⟩ := mstep ha2 hb3 uc13 uc22
  have X23 := hid (And.intro w23 (And.intro x23 (And.intro A23 B23)))
  clear w23 x23 A23 B23
  have R2 := mrow e20 e21 e22 e23
  obtain ⟨p30, q30, h30, r30, d30, c30, ur30, uc30, e30, w30, x30, A30, B30⟩ := mstep ha3 hb0 ur21 U64.zero
  have X30 := hid (And.intro w30 (And.intro x30 (And.intro A30 B30)))
  clear w30 x30 A30 B30
  obtain ⟨p31, q31, h31, r31, d31, c31, ur31, uc31, e31, w31, x31, A31, B31⟩ := mstep ha3 hb1 ur22 uc30
  have X31 := hid (And.intro w31 (And.intro x31 (And.intro A31 B31)))
  clear w31 x31 A31 B31
  obtain ⟨p32, q32, h32, r32, d32, c32, ur32, uc32, e32, w32, x32, A32, B32⟩ := mstep ha3 hb2 ur23 uc31
  have X32 := hid (And.intro w32 (And.intro x32 (And.intro A32 B32)))
  clear w32 x32 A32 B32
  obtain ⟨p33, q33, h33, r33, d33, c33, ur33, uc33, e33, w33, x33, A33, B33⟩ := mstep ha3 hb3 uc23 uc32
  have X33 := hid (And.intro w33 (And.intro x33 (And.intro A33 B33)))
  clear w33 x33 A33 B33
  have R3 := mrow e30 e31 e32 e33
  have P := mrows R0 R1 R2 R3
  obtain ⟨P0, P1, P2, P3, P4⟩ := mwords (H := MV r31 r32 r33 c33) ur00 ur10 ur20 ur30
  rw [← P] at P0 P1 P2 P3 P4
  rw [P0, P1, P2, P3, P4, mz_b ur31 ur32 ur33 uc33]
  clear P0 P1 P2 P3 P4 P R0 R1 R2 R3 e00 ur00 uc00 e01 ur01 uc01 e02 ur02 uc02 e03 ur03 uc03 e10 ur10 uc10 e11 ur11 uc11 e12 ur12 uc12 e13 ur13 uc13 e20 ur20 uc20 e21 ur21 uc21 e22 ur22 uc22 e23 ur23 uc23 e30 ur30 uc30 e31 ur31 uc31 e32 ur32 uc32 e33 ur33 uc33
  have IA := fun W => idx4 a0 a1 a2 a3 W
  have IB := fun W => idx4 b0 b1 b2 b3 W
  simp only [forall_and] at IA IB
  obtain ⟨IA0, IA1, IA2, IA3⟩ := IA
  obtain ⟨IB0, IB1, IB2, IB3⟩ := IB
  go_enter Try.func161, Try.ntmps161
  go_wp2
  refine wp_loop_rounds 5 ?_
  rw [rounds_succ]
  go_wp2
  refine wp_gen (fun Wz => Below w.heap.size w Wz ∧ w.heap.size + 4 ≤ Wz.heap.size ∧ Bx Wz (w.heap.size) (#[.int .u64 a0, .int .u64 a1, .int .u64 a2, .int .u64 a3]) ∧ Bx Wz (w.heap.size + 1) (#[.int .u64 b0, .int .u64 b1, .int .u64 b2, .int .u64 b3]) ∧ Bx Wz (w.heap.size + 1 + 1) (#[.int .u64 0, .int .u64 0, .int .u64 0, .int .u64 0]) ∧ Bx Wz (w.heap.size + 1 + 1 + 1) (#[.int .u64 0, .int .u64 0, .int .u64 0, .int .u64 0, .int .u64 0, .int .u64 0, .int .u64 0, .int .u64 0])) ⟨by (repeat' (first | (with_reducible assumption) | (with_reducible exact Below.refl _ _) | (with_reducible refine Below.alloc ?_ ?_ _) | (with_reducible refine Below.setCell ?_ ?_ _) | (with_reducible refine Below.drew ?_) | (with_reducible refine below_more ?_ (by with_reducible assumption)) | go_size | omega | (with_reducible refine below_drewN ?_))), (by first | go_size | omega), Bx.of (by (repeat' (first | (with_reducible assumption) | ((with_reducible refine HB.new _ _ _ ?_) <;> (go_size; done)) | (with_reducible refine HB.old (by go_size) ?_) | (with_reducible refine HB.drew ?_) | (with_reducible refine HB.over5 ?_) | (with_reducible refine HB.over4 ?_) | (with_reducible refine HB.setne (by first | go_size | (dsimp only; omega)) ?_) | (with_reducible refine HN.set ?_) | (with_reducible refine HN.setne (by first | go_size | (dsimp only; omega)) ?_) | (with_reducible refine HN.drew ?_) | (with_reducible refine HN.old (by go_size) ?_) | (with_reducible exact HN.of5 (by assumption)) | (with_reducible exact HN.new5 _ _ (by go_size)) | (with_reducible exact HN.of4 (by assumption)) | (with_reducible exact HN.new4 _ _ (by go_size))))), Bx.of (by (repeat' (first | (with_reducible assumption) | ((with_reducible refine HB.new _ _ _ ?_) <;> (go_size; done)) | (with_reducible refine HB.old (by go_size) ?_) | (with_reducible refine HB.drew ?_) | (with_reducible refine HB.over5 ?_) | (with_reducible refine HB.over4 ?_) | (with_reducible refine HB.setne (by first | go_size | (dsimp only; omega)) ?_) | (with_reducible refine HN.set ?_) | (with_reducible refine HN.setne (by first | go_size | (dsimp only; omega)) ?_) | (with_reducible refine HN.drew ?_) | (with_reducible refine HN.old (by go_size) ?_) | (with_reducible exact HN.of5 (by assumption)) | (with_reducible exact HN.new5 _ _ (by go_size)) | (with_reducible exact HN.of4 (by assumption)) | (with_reducible exact HN.new4 _ _ (by go_size))))), Bx.of (by (repeat' (first | (with_reducible assumption) | ((with_reducible refine HB.new _ _ _ ?_) <;> (go_size; done)) | (with_reducible refine HB.old (by go_size) ?_) | (with_reducible refine HB.drew ?_) | (with_reducible refine HB.over5 ?_) | (with_reducible refine HB.over4 ?_) | (with_reducible refine HB.setne (by first | go_size | (dsimp only; omega)) ?_) | (with_reducible refine HN.set ?_) | (with_reducible refine HN.setne (by first | go_size | (dsimp only; omega)) ?_) | (with_reducible refine HN.drew ?_) | (with_reducible refine HN.old (by go_size) ?_) | (with_reducible exact HN.of5 (by assumption)) | (with_reducible exact HN.new5 _ _ (by go_size)) | (with_reducible exact HN.of4 (by assumption)) | (with_reducible exact HN.new4 _ _ (by go_size))))), Bx.of (by (repeat' (first | (with_reducible assumption) | ((with_reducible refine HB.new _ _ _ ?_) <;> (go_size; done)) | (with_reducible refine HB.old (by go_size) ?_) | (with_reducible refine HB.drew ?_) | (with_reducible refine HB.over5 ?_) | (with_reducible refine HB.over4 ?_) | (with_reducible refine HB.setne (by first | go_size | (dsimp only; omega)) ?_) | (with_reducible refine HN.set ?_) | (with_reducible refine HN.setne (by first | go_size | (dsimp only; omega)) ?_) | (with_reducible refine HN.drew ?_) | (with_reducible refine HN.old (by go_size) ?_) | (with_reducible exact HN.of5 (by assumption)) | (with_reducible exact HN.new5 _ _ (by go_size)) | (with_reducible exact HN.of4 (by assumption)) | (with_reducible exact HN.new4 _ _ (by go_size)))))⟩ ?_; rintro W0 ⟨hbw0, hnw0, ⟨B01, B01c, B01f, B01l⟩, ⟨B02, B02c, B02f, B02l⟩, ⟨B03, B03c, B03f, B03l⟩, ⟨B04, B04c, B04f, B04l⟩⟩
  refine wp_loop_rounds 5 ?_
  obtain ⟨w00, x00, A00, B00⟩ := X00.out
  rw [rounds_succ]
  go_wp2_with (go_at_call 158; refine (wmul64_any _ _ ha0 hb0 _).mono ?_; rintro e w' ⟨rfl, rfl⟩)
  clear w00 x00 A00 B00 X00
  obtain ⟨w01, x01, A01, B01⟩ := X01.out
  rw [rounds_succ]
  go_wp2_with (go_at_call 158; refine (wmul64_any _ _ ha0 hb1 _).mono ?_; rintro e w' ⟨rfl, rfl⟩)
  clear w01 x01 A01 B01 X01
  obtain ⟨w02, x02, A02, B02⟩ := X02.out
  rw [rounds_succ]
  go_wp2_with (go_at_call 158; refine (wmul64_any _ _ ha0 hb2 _).mono ?_; rintro e w' ⟨rfl, rfl⟩)
  clear w02 x02 A02 B02 X02
  obtain ⟨w03, x03, A03, B03⟩ := X03.out
  rw [rounds_succ]
  go_wp2_with (go_at_call 158; refine (wmul64_any _ _ ha0 hb3 _).mono ?_; rintro e w' ⟨rfl, rfl⟩)
  clear w03 x03 A03 B03 X03
  rw [rounds_succ]
  go_wp2
  rw [rounds_succ]
  go_wp2
  refine wp_gen (fun Wz => Below w.heap.size w Wz ∧ w.heap.size + 4 ≤ Wz.heap.size ∧ Bx Wz (w.heap.size) (#[.int .u64 a0, .int .u64 a1, .int .u64 a2, .int .u64 a3]) ∧ Bx Wz (w.heap.size + 1) (#[.int .u64 b0, .int .u64 b1, .int .u64 b2, .int .u64 b3]) ∧ Bx Wz (w.heap.size + 1 + 1) (#[.int .u64 0, .int .u64 0, .int .u64 0, .int .u64 0]) ∧ Bx Wz (w.heap.size + 1 + 1 + 1) (#[.int .u64 r00, .int .u64 r01, .int .u64 r02, .int .u64 r03, .int .u64 c03, .int .u64 0, .int .u64 0, .int .u64 0])) ⟨by (repeat' (first | (with_reducible assumption) | (with_reducible exact Below.refl _ _) | (with_reducible refine Below.alloc ?_ ?_ _) | (with_reducible refine Below.setCell ?_ ?_ _) | (with_reducible refine Below.drew ?_) | (with_reducible refine below_more ?_ (by with_reducible assumption)) | go_size | omega | (with_reducible refine below_drewN ?_))), (by first | go_size | omega), Bx.of (by (repeat' (first | (with_reducible assumption) | ((with_reducible refine HB.new _ _ _ ?_) <;> (go_size; done)) | (with_reducible refine HB.old (by go_size) ?_) | (with_reducible refine HB.drew ?_) | (with_reducible refine HB.over5 ?_) | (with_reducible refine HB.over4 ?_) | (with_reducible refine HB.setne (by first | go_size | (dsimp only; omega)) ?_) | (with_reducible refine HN.set ?_) | (with_reducible refine HN.setne (by first | go_size | (dsimp only; omega)) ?_) | (with_reducible refine HN.drew ?_) | (with_reducible refine HN.old (by go_size) ?_) | (with_reducible exact HN.of5 (by assumption)) | (with_reducible exact HN.new5 _ _ (by go_size)) | (with_reducible exact HN.of4 (by assumption)) | (with_reducible exact HN.new4 _ _ (by go_size))))), Bx.of (by (repeat' (first | (with_reducible assumption) | ((with_reducible refine HB.new _ _ _ ?_) <;> (go_size; done)) | (with_reducible refine HB.old (by go_size) ?_) | (with_reducible refine HB.drew ?_) | (with_reducible refine HB.over5 ?_) | (with_reducible refine HB.over4 ?_) | (with_reducible refine HB.setne (by first | go_size | (dsimp only; omega)) ?_) | (with_reducible refine HN.set ?_) | (with_reducible refine HN.setne (by first | go_size | (dsimp only; omega)) ?_) | (with_reducible refine HN.drew ?_) | (with_reducible refine HN.old (by go_size) ?_) | (with_reducible exact HN.of5 (by assumption)) | (with_reducible exact HN.new5 _ _ (by go_size)) | (with_reducible exact HN.of4 (by assumption)) | (with_reducible exact HN.new4 _ _ (by go_size))))), Bx.of (by (repeat' (first | (with_reducible assumption) | ((with_reducible refine HB.new _ _ _ ?_) <;> (go_size; done)) | (with_reducible refine HB.old (by go_size) ?_) | (with_reducible refine HB.drew ?_) | (with_reducible refine HB.over5 ?_) | (with_reducible refine HB.over4 ?_) | (with_reducible refine HB.setne (by first | go_size | (dsimp only; omega)) ?_) | (with_reducible refine HN.set ?_) | (with_reducible refine HN.setne (by first | go_size | (dsimp only; omega)) ?_) | (with_reducible refine HN.drew ?_) | (with_reducible refine HN.old (by go_size) ?_) | (with_reducible exact HN.of5 (by assumption)) | (with_reducible exact HN.new5 _ _ (by go_size)) | (with_reducible exact HN.of4 (by assumption)) | (with_reducible exact HN.new4 _ _ (by go_size))))), Bx.of (by have h2 := (HB.set (i := 4) (v := .int .u64 c03) (HB.set (i := 3) (v := .int .u64 r03) (HB.set (i := 2) (v := .int .u64 r02) (HB.set (i := 1) (v := .int .u64 r01) (HB.set (i := 0) (v := .int .u64 r00) B04 rfl) rfl) rfl) rfl) rfl); simpa only [List.setIfInBounds_toArray, List.set_cons_zero, List.set_cons_succ] using h2)⟩ ?_; rintro W1 ⟨hbw1, hnw1, ⟨B11, B11c, B11f, B11l⟩, ⟨B12, B12c, B12f, B12l⟩, ⟨B13, B13c, B13f, B13l⟩, ⟨B14, B14c, B14f, B14l⟩⟩
  clear B01 B01c B01f B01l B02 B02c B02f B02l B03 B03c B03f B03l B04 B04c B04f B04l
  refine wp_loop_rounds 5 ?_
  obtain ⟨w10, x10, A10, B10⟩ := X10.out
  rw [rounds_succ]
  go_wp2_with (go_at_call 158; refine (wmul64_any _ _ ha1 hb0 _).mono ?_; rintro e w' ⟨rfl, rfl⟩)
  clear w10 x10 A10 B10 X10
  obtain ⟨w11, x11, A11, B11⟩ := X11.out
  rw [rounds_succ]
  go_wp2_with (go_at_call 158; refine (wmul64_any _ _ ha1 hb1 _).mono ?_; rintro e w' ⟨rfl, rfl⟩)
  clear w11 x11 A11 B11 X11
  obtain ⟨w12, x12, A12, B12⟩ := X12.out
  rw [rounds_succ]
  go_wp2_with (go_at_call 158; refine (wmul64_any _ _ ha1 hb2 _).mono ?_; rintro e w' ⟨rfl, rfl⟩)
  clear w12 x12 A12 B12 X12
  obtain ⟨w13, x13, A13, B13⟩ := X13.out
  rw [rounds_succ]
  go_wp2_with (go_at_call 158; refine (wmul64_any _ _ ha1 hb3 _).mono ?_; rintro e w' ⟨rfl, rfl⟩)
  clear w13 x13 A13 B13 X13
  rw [rounds_succ]
  go_wp2
  rw [rounds_succ]
  go_wp2
  refine wp_gen (fun Wz => Below w.heap.size w Wz ∧ w.heap.size + 4 ≤ Wz.heap.size ∧ Bx Wz (w.heap.size) (#[.int .u64 a0, .int .u64 a1, .int .u64 a2, .int .u64 a3]) ∧ Bx Wz (w.heap.size + 1) (#[.int .u64 b0, .int .u64 b1, .int .u64 b2, .int .u64 b3]) ∧ Bx Wz (w.heap.size + 1 + 1) (#[.int .u64 0, .int .u64 0, .int .u64 0, .int .u64 0]) ∧ Bx Wz (w.heap.size + 1 + 1 + 1) (#[.int .u64 r00, .int .u64 r10, .int .u64 r11, .int .u64 r12, .int .u64 r13, .int .u64 c13, .int .u64 0, .int .u64 0])) ⟨by (repeat' (first | (with_reducible assumption) | (with_reducible exact Below.refl _ _) | (with_reducible refine Below.alloc ?_ ?_ _) | (with_reducible refine Below.setCell ?_ ?_ _) | (with_reducible refine Below.drew ?_) | (with_reducible refine below_more ?_ (by with_reducible assumption)) | go_size | omega | (with_reducible refine below_drewN ?_))), (by first | go_size | omega), Bx.of (by (repeat' (first | (with_reducible assumption) | ((with_reducible refine HB.new _ _ _ ?_) <;> (go_size; done)) | (with_reducible refine HB.old (by go_size) ?_) | (with_reducible refine HB.drew ?_) | (with_reducible refine HB.over5 ?_) | (with_reducible refine HB.over4 ?_) | (with_reducible refine HB.setne (by first | go_size | (dsimp only; omega)) ?_) | (with_reducible refine HN.set ?_) | (with_reducible refine HN.setne (by first | go_size | (dsimp only; omega)) ?_) | (with_reducible refine HN.drew ?_) | (with_reducible refine HN.old (by go_size) ?_) | (with_reducible exact HN.of5 (by assumption)) | (with_reducible exact HN.new5 _ _ (by go_size)) | (with_reducible exact HN.of4 (by assumption)) | (with_reducible exact HN.new4 _ _ (by go_size))))), Bx.of (by (repeat' (first | (with_reducible assumption) | ((with_reducible refine HB.new _ _ _ ?_) <;> (go_size; done)) | (with_reducible refine HB.old (by go_size) ?_) | (with_reducible refine HB.drew ?_) | (with_reducible refine HB.over5 ?_) | (with_reducible refine HB.over4 ?_) | (with_reducible refine HB.setne (by first | go_size | (dsimp only; omega)) ?_) | (with_reducible refine HN.set ?_) | (with_reducible refine HN.setne (by first | go_size | (dsimp only; omega)) ?_) | (with_reducible refine HN.drew ?_) | (with_reducible refine HN.old (by go_size) ?_) | (with_reducible exact HN.of5 (by assumption)) | (with_reducible exact HN.new5 _ _ (by go_size)) | (with_reducible exact HN.of4 (by assumption)) | (with_reducible exact HN.new4 _ _ (by go_size))))), Bx.of (by (repeat' (first | (with_reducible assumption) | ((with_reducible refine HB.new _ _ _ ?_) <;> (go_size; done)) | (with_reducible refine HB.old (by go_size) ?_) | (with_reducible refine HB.drew ?_) | (with_reducible refine HB.over5 ?_) | (with_reducible refine HB.over4 ?_) | (with_reducible refine HB.setne (by first | go_size | (dsimp only; omega)) ?_) | (with_reducible refine HN.set ?_) | (with_reducible refine HN.setne (by first | go_size | (dsimp only; omega)) ?_) | (with_reducible refine HN.drew ?_) | (with_reducible refine HN.old (by go_size) ?_) | (with_reducible exact HN.of5 (by assumption)) | (with_reducible exact HN.new5 _ _ (by go_size)) | (with_reducible exact HN.of4 (by assumption)) | (with_reducible exact HN.new4 _ _ (by go_size))))), Bx.of (by have h2 := (HB.set (i := 5) (v := .int .u64 c13) (HB.set (i := 4) (v := .int .u64 r13) (HB.set (i := 3) (v := .int .u64 r12) (HB.set (i := 2) (v := .int .u64 r11) (HB.set (i := 1) (v := .int .u64 r10) B14 rfl) rfl) rfl) rfl) rfl); simpa only [List.setIfInBounds_toArray, List.set_cons_zero, List.set_cons_succ] using h2)⟩ ?_; rintro W2 ⟨hbw2, hnw2, ⟨B21, B21c, B21f, B21l⟩, ⟨B22, B22c, B22f, B22l⟩, ⟨B23, B23c, B23f, B23l⟩, ⟨B24, B24c, B24f, B24l⟩⟩
  clear B11 B11c B11f B11l B12 B12c B12f B12l B13 B13c B13f B13l B14 B14c B14f B14l
  refine wp_loop_rounds 5 ?_
  obtain ⟨w20, x20, A20, B20⟩ := X20.out
  rw [rounds_succ]
  go_wp2_with (go_at_call 158; refine (wmul64_any _ _ ha2 hb0 _).mono ?_; rintro e w' ⟨rfl, rfl⟩)
  clear w20 x20 A20 B20 X20
  obtain ⟨w21, x21, A21, B21⟩ := X21.out
  rw [rounds_succ]
  go_wp2_with (go_at_call 158; refine (wmul64_any _ _ ha2 hb1 _).mono ?_; rintro e w' ⟨rfl, rfl⟩)
  clear w21 x21 A21 B21 X21
  obtain ⟨w22, x22, A22, B22⟩ := X22.out
  rw [rounds_succ]
  go_wp2_with (go_at_call 158; refine (wmul64_any _ _ ha2 hb2 _).mono ?_; rintro e w' ⟨rfl, rfl⟩)
  clear w22 x22 A22 B22 X22
  obtain ⟨w23, x23, A23, B23⟩ := X23.out
  rw [rounds_succ]
  go_wp2_with (go_at_call 158; refine (wmul64_any _ _ ha2 hb3 _).mono ?_; rintro e w' ⟨rfl, rfl⟩)
  clear w23 x23 A23 B23 X23
  rw [rounds_succ]
  go_wp2
  rw [rounds_succ]
  go_wp2
  refine wp_gen (fun Wz => Below w.heap.size w Wz ∧ w.heap.size + 4 ≤ Wz.heap.size ∧ Bx Wz (w.heap.size) (#[.int .u64 a0, .int .u64 a1, .int .u64 a2, .int .u64 a3]) ∧ Bx Wz (w.heap.size + 1) (#[.int .u64 b0, .int .u64 b1, .int .u64 b2, .int .u64 b3]) ∧ Bx Wz (w.heap.size + 1 + 1) (#[.int .u64 0, .int .u64 0, .int .u64 0, .int .u64 0]) ∧ Bx Wz (w.heap.size + 1 + 1 + 1) (#[.int .u64 r00, .int .u64 r10, .int .u64 r20, .int .u64 r21, .int .u64 r22, .int .u64 r23, .int .u64 c23, .int .u64 0])) ⟨by (repeat' (first | (with_reducible assumption) | (with_reducible exact Below.refl _ _) | (with_reducible refine Below.alloc ?_ ?_ _) | (with_reducible refine Below.setCell ?_ ?_ _) | (with_reducible refine Below.drew ?_) | (with_reducible refine below_more ?_ (by with_reducible assumption)) | go_size | omega | (with_reducible refine below_drewN ?_))), (by first | go_size | omega), Bx.of (by (repeat' (first | (with_reducible assumption) | ((with_reducible refine HB.new _ _ _ ?_) <;> (go_size; done)) | (with_reducible refine HB.old (by go_size) ?_) | (with_reducible refine HB.drew ?_) | (with_reducible refine HB.over5 ?_) | (with_reducible refine HB.over4 ?_) | (with_reducible refine HB.setne (by first | go_size | (dsimp only; omega)) ?_) | (with_reducible refine HN.set ?_) | (with_reducible refine HN.setne (by first | go_size | (dsimp only; omega)) ?_) | (with_reducible refine HN.drew ?_) | (with_reducible refine HN.old (by go_size) ?_) | (with_reducible exact HN.of5 (by assumption)) | (with_reducible exact HN.new5 _ _ (by go_size)) | (with_reducible exact HN.of4 (by assumption)) | (with_reducible exact HN.new4 _ _ (by go_size))))), Bx.of (by (repeat' (first | (with_reducible assumption) | ((with_reducible refine HB.new _ _ _ ?_) <;> (go_size; done)) | (with_reducible refine HB.old (by go_size) ?_) | (with_reducible refine HB.drew ?_) | (with_reducible refine HB.over5 ?_) | (with_reducible refine HB.over4 ?_) | (with_reducible refine HB.setne (by first | go_size | (dsimp only; omega)) ?_) | (with_reducible refine HN.set ?_) | (with_reducible refine HN.setne (by first | go_size | (dsimp only; omega)) ?_) | (with_reducible refine HN.drew ?_) | (with_reducible refine HN.old (by go_size) ?_) | (with_reducible exact HN.of5 (by assumption)) | (with_reducible exact HN.new5 _ _ (by go_size)) | (with_reducible exact HN.of4 (by assumption)) | (with_reducible exact HN.new4 _ _ (by go_size))))), Bx.of (by (repeat' (first | (with_reducible assumption) | ((with_reducible refine HB.new _ _ _ ?_) <;> (go_size; done)) | (with_reducible refine HB.old (by go_size) ?_) | (with_reducible refine HB.drew ?_) | (with_reducible refine HB.over5 ?_) | (with_reducible refine HB.over4 ?_) | (with_reducible refine HB.setne (by first | go_size | (dsimp only; omega)) ?_) | (with_reducible refine HN.set ?_) | (with_reducible refine HN.setne (by first | go_size | (dsimp only; omega)) ?_) | (with_reducible refine HN.drew ?_) | (with_reducible refine HN.old (by go_size) ?_) | (with_reducible exact HN.of5 (by assumption)) | (with_reducible exact HN.new5 _ _ (by go_size)) | (with_reducible exact HN.of4 (by assumption)) | (with_reducible exact HN.new4 _ _ (by go_size))))), Bx.of (by have h2 := (HB.set (i := 6) (v := .int .u64 c23) (HB.set (i := 5) (v := .int .u64 r23) (HB.set (i := 4) (v := .int .u64 r22) (HB.set (i := 3) (v := .int .u64 r21) (HB.set (i := 2) (v := .int .u64 r20) B24 rfl) rfl) rfl) rfl) rfl); simpa only [List.setIfInBounds_toArray, List.set_cons_zero, List.set_cons_succ] using h2)⟩ ?_; rintro W3 ⟨hbw3, hnw3, ⟨B31, B31c, B31f, B31l⟩, ⟨B32, B32c, B32f, B32l⟩, ⟨B33, B33c, B33f, B33l⟩, ⟨B34, B34c, B34f, B34l⟩⟩
  clear B21 B21c B21f B21l B22 B22c B22f B22l B23 B23c B23f B23l B24 B24c B24f B24l
  refine wp_loop_rounds 5 ?_
  obtain ⟨w30, x30, A30, B30⟩ := X30.out
  rw [rounds_succ]
  go_wp2_with (go_at_call 158; refine (wmul64_any _ _ ha3 hb0 _).mono ?_; rintro e w' ⟨rfl, rfl⟩)
  clear w30 x30 A30 B30 X30
  obtain ⟨w31, x31, A31, B31⟩ := X31.out
  rw [rounds_succ]
  go_wp2_with (go_at_call 158; refine (wmul64_any _ _ ha3 hb1 _).mono ?_; rintro e w' ⟨rfl, rfl⟩)
  clear w31 x31 A31 B31 X31
  obtain ⟨w32, x32, A32, B32⟩ := X32.out
  rw [rounds_succ]
  go_wp2_with (go_at_call 158; refine (wmul64_any _ _ ha3 hb2 _).mono ?_; rintro e w' ⟨rfl, rfl⟩)
  clear w32 x32 A32 B32 X32
  obtain ⟨w33, x33, A33, B33⟩ := X33.out
  rw [rounds_succ]
  go_wp2_with (go_at_call 158; refine (wmul64_any _ _ ha3 hb3 _).mono ?_; rintro e w' ⟨rfl, rfl⟩)
  clear w33 x33 A33 B33 X33
  rw [rounds_succ]
  go_wp2
  rw [rounds_succ]
  go_wp2
  refine wp_gen (fun Wz => Below w.heap.size w Wz ∧ w.heap.size + 4 ≤ Wz.heap.size ∧ Bx Wz (w.heap.size + 1 + 1) (#[.int .u64 0, .int .u64 0, .int .u64 0, .int .u64 0]) ∧ Bx Wz (w.heap.size + 1 + 1 + 1) (#[.int .u64 r00, .int .u64 r10, .int .u64 r20, .int .u64 r30, .int .u64 r31, .int .u64 r32, .int .u64 r33, .int .u64 c33])) ⟨by (repeat' (first | (with_reducible assumption) | (with_reducible exact Below.refl _ _) | (with_reducible refine Below.alloc ?_ ?_ _) | (with_reducible refine Below.setCell ?_ ?_ _) | (with_reducible refine Below.drew ?_) | (with_reducible refine below_more ?_ (by with_reducible assumption)) | go_size | omega | (with_reducible refine below_drewN ?_))), (by first | go_size | omega), Bx.of (by (repeat' (first | (with_reducible assumption) | ((with_reducible refine HB.new _ _ _ ?_) <;> (go_size; done)) | (with_reducible refine HB.old (by go_size) ?_) | (with_reducible refine HB.drew ?_) | (with_reducible refine HB.over5 ?_) | (with_reducible refine HB.over4 ?_) | (with_reducible refine HB.setne (by first | go_size | (dsimp only; omega)) ?_) | (with_reducible refine HN.set ?_) | (with_reducible refine HN.setne (by first | go_size | (dsimp only; omega)) ?_) | (with_reducible refine HN.drew ?_) | (with_reducible refine HN.old (by go_size) ?_) | (with_reducible exact HN.of5 (by assumption)) | (with_reducible exact HN.new5 _ _ (by go_size)) | (with_reducible exact HN.of4 (by assumption)) | (with_reducible exact HN.new4 _ _ (by go_size))))), Bx.of (by have h2 := (HB.set (i := 7) (v := .int .u64 c33) (HB.set (i := 6) (v := .int .u64 r33) (HB.set (i := 5) (v := .int .u64 r32) (HB.set (i := 4) (v := .int .u64 r31) (HB.set (i := 3) (v := .int .u64 r30) B34 rfl) rfl) rfl) rfl) rfl); simpa only [List.setIfInBounds_toArray, List.set_cons_zero, List.set_cons_succ] using h2)⟩ ?_; rintro W4 ⟨hbw4, hnw4, ⟨B41, B41c, B41f, B41l⟩, ⟨B42, B42c, B42f, B42l⟩⟩
  clear B31 B31c B31f B31l B32 B32c B32f B32l B33 B33c B33f B33l B34 B34c B34f B34l
  clear IA0 IA1 IA2 IA3 IB0 IB1 IB2 IB3
  have CP := copy4 (W := W4.drew) (w.heap.size + 1 + 1) (w.heap.size + 1 + 1 + 1) (HN.of4 (HB.drew B41)) (HB.drew B42)
  go_region
  clear CP
  go_wp2_with fail
  refine wp_gen (fun Wz => Below w.heap.size w Wz ∧ w.heap.size + 4 ≤ Wz.heap.size ∧ Bx Wz (w.heap.size + 1 + 1) (#[.int .u64 r00, .int .u64 r10, .int .u64 r20, .int .u64 r30]) ∧ Bx Wz (w.heap.size + 1 + 1 + 1) (#[.int .u64 r00, .int .u64 r10, .int .u64 r20, .int .u64 r30, .int .u64 r31, .int .u64 r32, .int .u64 r33, .int .u64 c33])) ⟨by (repeat' (first | (with_reducible assumption) | (with_reducible exact Below.refl _ _) | (with_reducible refine Below.alloc ?_ ?_ _) | (with_reducible refine Below.setCell ?_ ?_ _) | (with_reducible refine Below.drew ?_) | (with_reducible refine below_more ?_ (by with_reducible assumption)) | go_size | omega | (with_reducible refine below_drewN ?_))), (by first | go_size | omega), Bx.of (by (repeat' (first | (with_reducible assumption) | ((with_reducible refine HB.new _ _ _ ?_) <;> (go_size; done)) | (with_reducible refine HB.old (by go_size) ?_) | (with_reducible refine HB.drew ?_) | (with_reducible refine HB.over5 ?_) | (with_reducible refine HB.over4 ?_) | (with_reducible refine HB.setne (by first | go_size | (dsimp only; omega)) ?_) | (with_reducible refine HN.set ?_) | (with_reducible refine HN.setne (by first | go_size | (dsimp only; omega)) ?_) | (with_reducible refine HN.drew ?_) | (with_reducible refine HN.old (by go_size) ?_) | (with_reducible exact HN.of5 (by assumption)) | (with_reducible exact HN.new5 _ _ (by go_size)) | (with_reducible exact HN.of4 (by assumption)) | (with_reducible exact HN.new4 _ _ (by go_size))))), Bx.of (by (repeat' (first | (with_reducible assumption) | ((with_reducible refine HB.new _ _ _ ?_) <;> (go_size; done)) | (with_reducible refine HB.old (by go_size) ?_) | (with_reducible refine HB.drew ?_) | (with_reducible refine HB.over5 ?_) | (with_reducible refine HB.over4 ?_) | (with_reducible refine HB.setne (by first | go_size | (dsimp only; omega)) ?_) | (with_reducible refine HN.set ?_) | (with_reducible refine HN.setne (by first | go_size | (dsimp only; omega)) ?_) | (with_reducible refine HN.drew ?_) | (with_reducible refine HN.old (by go_size) ?_) | (with_reducible exact HN.of5 (by assumption)) | (with_reducible exact HN.new5 _ _ (by go_size)) | (with_reducible exact HN.of4 (by assumption)) | (with_reducible exact HN.new4 _ _ (by go_size)))))⟩ ?_; rintro W5 ⟨hbw5, hnw5, ⟨B51, B51c, B51f, B51l⟩, ⟨B52, B52c, B52f, B52l⟩⟩
  clear B41 B41c B41f B41l B42 B42c B42f B42l
  have E := fun W => eq_mag r31 r32 r33 c33 0 0 0 0 9998 W
  have AR := fun W => arr4 (w.heap.size + 1 + 1 + 1) 4 W
  go_region
  clear E AR
  (repeat' (first | go_values | go_skip | go_guarded | go_step | go_upon | (simp only [Int.not_lt, Int.not_le] at *; go_simp) | (go_values <;> (try go_simp)) | (go_ite <;> go_prune <;> (try go_simp)) | (split <;> (first | (rename_i hx; exact (hx _ rfl).elim) | go_prune))))
  refine bodyPost_ret (v := .tuple #[MG r00 r10 r20 r30, .bool (mz r31 r32 r33 c33)]) ?_ rfl ⟨rfl, by (repeat' (first | (with_reducible assumption) | (with_reducible exact Below.refl _ _) | (with_reducible refine Below.alloc ?_ ?_ _) | (with_reducible refine Below.setCell ?_ ?_ _) | (with_reducible refine Below.drew ?_) | (with_reducible refine below_more ?_ (by with_reducible assumption)) | go_size | omega | (with_reducible refine below_drewN ?_)))⟩
  simp [results, Try.results161, go_sem, B51c, B51f, B51l, mz]
end Go.Proofs.Ytncmmbacoknefaa

/- RefB: The reference of wide, continued: sums, differences, products of lists of words. -/
namespace Go.Proofs.Ytncmmbacoknefaa
open Go.ChangeShapes Go.WideShapes Go.ChangeAt Go.RowKit
set_option linter.unusedVariables false
set_option linter.unusedSimpArgs false
theorem OwnU.slice {w : World} {base : Nat} {v : Value} {ws : List Int} (h : OwnU w base v ws) : ∃ a cap, v = .slice a ws.length cap := by
  rcases h.form with ⟨rfl, rfl⟩ | ⟨g, cap, rfl, _⟩
  · exact ⟨none, 0, rfl⟩
  · exact ⟨_, cap, rfl⟩
theorem OwnU.at_ {w : World} {base : Nat} {a : Option Addr} {n cap : Nat} {ws : List Int} (h : OwnU w base (.slice a n cap) ws) (hp : 0 < ws.length) :
    ∃ g, a = some ⟨g, 0, none⟩ ∧ n = ws.length ∧ base ≤ g ∧ g < w.heap.size ∧ n ≤ cap ∧ cap ≤ 9223372036854775807 ∧ (∀ j, j < ws.length → w.cell? ⟨g, j, none⟩ = some (.int .u64 (ws.getD j 0))) ∧ (∀ j, w.frozen? ⟨g, j, none⟩ = false) := by
  rcases h.form with ⟨_, rfl⟩ | ⟨g, cap', e, h1, h2, h3, h4, h5, h6⟩
  · simp at hp
  · injection e with e1 e2 e3
    subst e1 e2 e3
    exact ⟨g, rfl, rfl, h1, h2, h3, by simpa [maxLen] using h4, h5, h6⟩
theorem SlU.at_ {w : World} {a : Option Addr} {n cap : Nat} {ws : List Int} (h : SlU w (.slice a n cap) ws) {i : Nat} (hi : i < n) :
    ∃ b off, a = some ⟨b, off, none⟩ ∧ b < w.heap.size ∧ n ≤ cap ∧ cap ≤ 9223372036854775807 ∧ w.cell? ⟨b, off + i, none⟩ = some (.int .u64 (ws.getD i 0)) := by
  obtain ⟨a', len, cap', e, h1, h2, h3, h4, h5⟩ := h
  cases e
  obtain ⟨b, off, rfl, hlt, hc⟩ := h5 (by omega)
  exact ⟨b, off, rfl, hlt, h2, h3, hc i hi⟩
theorem SlU.len {w : World} {a : Option Addr} {n cap : Nat} {ws : List Int} (h : SlU w (.slice a n cap) ws) : ws.length = n ∧ n ≤ cap ∧ cap ≤ 9223372036854775807 := by
  obtain ⟨a', len, cap', e, h1, h2, h3, h4, h5⟩ := h
  cases e
  exact ⟨h1, h2, h3⟩
/-- After i rounds of the sum. -/
def AddI (A B os : List Int) (i : Nat) (c : Int) : Prop := Bit c ∧ os.length = A.length ∧ VL (os.take i) + pw i * c = TV A i + TV B i ∧ ∀ j, i ≤ j → os.getD j 0 = A.getD j 0
theorem take_set_succ (os : List Int) {i : Nat} (hi : i < os.length) (s : Int) : (os.set i s).take (i + 1) = os.take i ++ [s] := by
  rw [take_snocD _ i (by rw [List.length_set]; exact hi), List.take_set_of_le (Nat.le_refl _)]
  congr 1
  rw [List.getD_eq_getElem?_getD, List.getElem?_set_self hi]; rfl
theorem getD_set_gt (os : List Int) {i j : Nat} (h : i < j) (s : Int) : (os.set i s).getD j 0 = os.getD j 0 := by
  rw [List.getD_eq_getElem?_getD, List.getD_eq_getElem?_getD, List.getElem?_set_ne (by omega)]
theorem AddI.step {A B os : List Int} {i : Nat} {c : Int} (hA : Ws A) (hB : Ws B) (h : AddI A B os i c) (hi : i < A.length) : AddI A B (os.set i (s64 (os.getD i 0) (B.getD i 0) c)) (i + 1) (c64 (os.getD i 0) (B.getD i 0) c) := by
  obtain ⟨h1, h2, h3, h4⟩ := h
  have e := h4 i (Nat.le_refl _)
  refine ⟨c64_bit (by rw [e]; exact hA.getD i) (hB.getD i) h1, by rw [List.length_set]; exact h2, ?_, fun j hj => by rw [getD_set_gt os (by omega)]; exact h4 j (by omega)⟩
  rw [take_set_succ os (by omega), VL_snoc, List.length_take, Nat.min_eq_left (by omega), TV_succ, TV_succ, pw_succ]
  have := add_round (s64_sum (os.getD i 0) (B.getD i 0) c) h3
  rw [e] at this ⊢
  exact this
theorem AddI.done {A B os : List Int} {c : Int} (h : AddI A B os A.length c) (hl : B.length ≤ A.length) : VL (os ++ [c]) = VL A + VL B := by
  obtain ⟨h1, h2, h3, h4⟩ := h
  rw [VL_snoc, h2, ← TV_all A A.length (Nat.le_refl _), ← TV_all B A.length hl]
  rw [List.take_of_length_le (by omega)] at h3
  exact h3
set_option maxHeartbeats 1000000 in
set_option maxRecDepth 100000 in
theorem radd_any (a a' : Option Addr) (len cap len' cap' : Nat) (m n : Int) (hm : 0 ≤ m) (hn : 0 ≤ n) (hs : len ≤ 1000) (hs' : len' ≤ 1000) (w : World) (h : SlU w (.slice a len cap) (wl m)) (h' : SlU w (.slice a' len' cap') (wl n)) :
    Calls Try.prog 75 #[.slice a len cap, .slice a' len' cap'] w (MagP w (m + n)) := by
  obtain ⟨i0, hi, hz0, hz1, hz2⟩ := info_u
  obtain ⟨l1, l2, l3⟩ := h.len
  obtain ⟨g1, g2, g3⟩ := h'.len
  by_cases hlt : len < len'
  · have t1 : decide ((len : Int) < (len' : Int)) = true := dT (by omega)
    have t2 : decide (len < len') = true := dT hlt
    have H := hid (And.intro h' (And.intro h (And.intro g1 (And.intro l1 (And.intro l2 (And.intro l3 (And.intro g2 g3)))))))
    clear h h' l1 g1 l2 l3 g2 g3
    go_enter Try.func75, Try.ntmps75
    go_wp2_with (at_builtin; (refine wpList_append_u (ws := []) (ms := wl n) (v := .slice (some ⟨w.heap.size, 0, none⟩) 0 0) (src := .slice a' len' cap') _ rfl (.tmp 16) (.tmp 17) 113 113 rfl w.heap.size Try.underlying113 Try.underlying113 hi hz0 hz1 hz2 rfl rfl ?own ?src ?small ?base ?_); rotate_right; intro v1 w1 hown hg hat)
    case own => exact OwnU.empty w _ rfl rfl (Nat.le_refl _)
    case src => exact H.out.1.alloc _
    case small => have := H.out.2.2.1; simp only [List.length_nil]; omega
    case base => simp
    have hb1 : Below w.heap.size w w1 := ((Below.refl _ w).alloc (Nat.le_refl _) _).grown hg (by simp) (fun k e => by simp [Value.ownBlock] at e; omega)
    clear hg hat
    simp only [List.nil_append] at hown
    obtain ⟨a1, c1, rfl⟩ := hown.slice
    rw [H.out.2.2.1] at hown ⊢
    have HO := hid (And.intro hown hb1)
    clear hown hb1
    have hxl : (0 : Int) ≤ (len' : Int) := Int.natCast_nonneg _
    go_loopw [6, 7, 8] (fun c i x wr => ∃ (q : Nat) (cy : Int) (os : List Int), q ≤ len' ∧ c = .int .u64 cy ∧ i = .int .i64 q ∧ Hid (AddI (wl n) (wl m) os q cy ∧ OwnU wr w.heap.size (.slice a1 len' c1) os ∧ Below w.heap.size w wr)) (fun _ i _ _ => len' - (intOf i).toNat)
    case atStart => exact ⟨0, 0, wl n, Nat.zero_le _, rfl, rfl, hid ⟨⟨Bit.zero, rfl, by simp [TV_zero, pw, VL], fun j _ => rfl⟩, HO.out.1, HO.out.2⟩⟩
    case round =>
      obtain ⟨q, cy, os, hq, rfl, rfl, HI⟩ := hrel
      by_cases hql : q < len'
      · obtain ⟨hI, hown, hb0⟩ := HI.out
        have hol : os.length = len' := hI.2.1.trans H.out.2.2.1
        obtain ⟨g, rfl, -, e3, e4, e5, e6, e7, e8⟩ := hown.at_ (by omega)
        have hc := e7 q (by omega)
        have hf := e8 q
        clear e7 e8
        have hq0 : (0 : Int) ≤ (q : Int) := Int.natCast_nonneg _
        have hq1 : (q : Int) < (len' : Int) := by omega
        have hST := hI.step (wl_words _) (wl_words _) (by rw [H.out.2.2.1]; exact hql)
        have A1 := fun W => add64 (x := os.getD q 0) (y := (wl m).getD q 0) (c := cy) (hown.2.getD q) ((wl_words _).getD q) hI.1 W
        have hOS := hown.stored (x := s64 (os.getD q 0) ((wl m).getD q 0) cy) (by omega) q (by omega) (s64_in _ _ _)
        have HN := hid (And.intro hST (And.intro hOS hb0))
        clear hST hOS hI hown hol
        by_cases hqy : q < len
        · obtain ⟨b, off, rfl, f1, f2, f3, f4⟩ := (H.out.2.1).at_ hqy
          have hcy := (hb0.cell (p := ⟨b, off + q, none⟩) f1).trans f4
          have hq2 : (q : Int) < (len : Int) := by omega
          clear f4
          generalize s64 (os.getD q 0) ((wl m).getD q 0) cy = s at *
          generalize c64 (os.getD q 0) ((wl m).getD q 0) cy = cz at *
          generalize os.getD q 0 = x at *
          generalize (wl m).getD q 0 = y at *
          clear hb0
          go_wp2
          go_roundw
          case rel => exact ⟨q + 1, _, os.set q s, by omega, rfl, by go_num, hid ⟨HN.out.1, HN.out.2.1, by have hb0 := HN.out.2.2; (repeat' (first | (with_reducible assumption) | (with_reducible exact Below.refl _ _) | (with_reducible refine Below.alloc ?_ ?_ _) | (with_reducible refine Below.setCell ?_ ?_ _) | (with_reducible refine Below.drew ?_) | (with_reducible refine below_more ?_ (by with_reducible assumption)) | go_size | omega | (with_reducible refine below_drewN ?_)))⟩⟩
          case measure => simp [intOf]; omega
        · have e0 : (wl m).getD q 0 = 0 := by
            rw [List.getD_eq_getElem?_getD, List.getElem?_eq_none (by rw [H.out.2.2.2.1]; omega)]; rfl
          rw [e0] at A1 HN
          clear e0 hb0
          have hq2 : decide ((q : Int) < (len : Int)) = false := dF (by omega)
          have hq3 : decide (q < len) = false := dF (by omega)
          generalize s64 (os.getD q 0) 0 cy = s at *
          generalize c64 (os.getD q 0) 0 cy = cz at *
          generalize os.getD q 0 = x at *
          go_wp2
          go_roundw
          case rel => exact ⟨q + 1, _, os.set q s, by omega, rfl, by go_num, hid ⟨HN.out.1, HN.out.2.1, by have hb0 := HN.out.2.2; (repeat' (first | (with_reducible assumption) | (with_reducible exact Below.refl _ _) | (with_reducible refine Below.alloc ?_ ?_ _) | (with_reducible refine Below.setCell ?_ ?_ _) | (with_reducible refine Below.drew ?_) | (with_reducible refine below_more ?_ (by with_reducible assumption)) | go_size | omega | (with_reducible refine below_drewN ?_)))⟩⟩
          case measure => simp [intOf]; omega
      · obtain rfl : q = len' := by omega
        obtain ⟨hI, hown, hb0⟩ := HI.out
        have hol : os.length = q := hI.2.1.trans H.out.2.2.1
        have hbit := hI.1
        have eV : VL (os ++ [cy]) = m + n := by
          rw [AddI.done (A := wl n) (B := wl m) (by rw [H.out.2.2.1]; exact hI) (by rw [H.out.2.2.1, H.out.2.2.2.1]; omega), VL_wl (by omega), VL_wl (by omega)]
          try omega
        have HV := hid (And.intro eV hol)
        have HO2 := hid (And.intro hown (And.intro hb0 hbit))
        clear eV hol
        have hsz := hb0.size
        clear HO HI hI hown hb0 hbit
        go_wp2_with (at_builtin; (refine wpList_append_u (ws := os) (ms := [cy]) (v := .slice a1 q c1) (src := .slice (some ⟨wr.heap.size, 0, none⟩) 1 1) _ rfl (.tmp 46) (.tmp 48) 113 113 rfl w.heap.size Try.underlying113 Try.underlying113 hi hz0 hz1 hz2 rfl rfl ?own ?src ?small ?base ?_); rotate_right; intro v2 w2 hown hg hat)
        case own => exact HO2.out.1.below ((Below.refl _ _).alloc (Nat.le_refl _) _)
        case src => exact (OwnU.lit wr [cy] (Ws.one ⟨by have := HO2.out.2.2.1; omega, by have := HO2.out.2.2.2; omega⟩) _ rfl (by simp [maxLen])).sl
        case small => have := HV.out.2; simp; omega
        case base => simp; omega
        have hb2 : Below w.heap.size w w2 := ((HO2.out.2.1).alloc hsz _).grown hg (by simp; omega) (fun k e => by
          have := ((HO2.out.1).1.lt k e).1; exact this)
        clear hg hat
        obtain ⟨a2, c2, rfl⟩ := hown.slice
        have hs2 := hown.sl
        have eV := HV.out.1
        have HC := hid (And.intro (SlF.canon (base := w.heap.size) ⟨hs2, hown.fr (by first | exact Nat.le_refl _ | (simp; done) | (simp; omega))⟩) (And.intro hb2 eV))
        clear hown hb2 eV HV HO2
        (repeat' (first | (go_big_may; (first | (go_at_call 127; refine (rtrim_any _ _ _ _ _ hs2).mono ?_; rintro e w' ⟨rfl, rfl⟩))) | go_values | go_skip | go_guarded | go_step | go_upon | (simp only [Int.not_lt, Int.not_le] at *; go_simp) | (go_values <;> (try go_simp)) | (go_ite <;> go_prune <;> (try go_simp)) | (split <;> (first | (rename_i hx; exact (hx _ rfl).elim) | go_prune))))
        go_ret
        obtain ⟨hc, hb2, eV⟩ := HC.out
        refine ⟨.slice a2 (wl (VL (os ++ [cy]))).length c2, rfl, ?_, hb2⟩
        rw [eV] at hc ⊢
        exact hc
  · have t1 : decide ((len : Int) < (len' : Int)) = false := dF (by omega)
    have t2 : decide (len < len') = false := dF hlt
    have H := hid (And.intro h (And.intro h' (And.intro l1 (And.intro g1 (And.intro l2 (And.intro l3 (And.intro g2 g3)))))))
    clear h h' l1 g1 l2 l3 g2 g3
    go_enter Try.func75, Try.ntmps75
    go_wp2_with (at_builtin; (refine wpList_append_u (ws := []) (ms := wl m) (v := .slice (some ⟨w.heap.size, 0, none⟩) 0 0) (src := .slice a len cap) _ rfl (.tmp 16) (.tmp 17) 113 113 rfl w.heap.size Try.underlying113 Try.underlying113 hi hz0 hz1 hz2 rfl rfl ?own ?src ?small ?base ?_); rotate_right; intro v1 w1 hown hg hat)
    case own => exact OwnU.empty w _ rfl rfl (Nat.le_refl _)
    case src => exact H.out.1.alloc _
    case small => have := H.out.2.2.1; simp only [List.length_nil]; omega
    case base => simp
    have hb1 : Below w.heap.size w w1 := ((Below.refl _ w).alloc (Nat.le_refl _) _).grown hg (by simp) (fun k e => by simp [Value.ownBlock] at e; omega)
    clear hg hat
    simp only [List.nil_append] at hown
    obtain ⟨a1, c1, rfl⟩ := hown.slice
    rw [H.out.2.2.1] at hown ⊢
    have HO := hid (And.intro hown hb1)
    clear hown hb1
    have hxl : (0 : Int) ≤ (len : Int) := Int.natCast_nonneg _
    go_loopw [6, 7, 8] (fun c i x wr => ∃ (q : Nat) (cy : Int) (os : List Int), q ≤ len ∧ c = .int .u64 cy ∧ i = .int .i64 q ∧ Hid (AddI (wl m) (wl n) os q cy ∧ OwnU wr w.heap.size (.slice a1 len c1) os ∧ Below w.heap.size w wr)) (fun _ i _ _ => len - (intOf i).toNat)
    case atStart => exact ⟨0, 0, wl m, Nat.zero_le _, rfl, rfl, hid ⟨⟨Bit.zero, rfl, by simp [TV_zero, pw, VL], fun j _ => rfl⟩, HO.out.1, HO.out.2⟩⟩
    case round =>
      obtain ⟨q, cy, os, hq, rfl, rfl, HI⟩ := hrel
      by_cases hql : q < len
      · obtain ⟨hI, hown, hb0⟩ := HI.out
        have hol : os.length = len := hI.2.1.trans H.out.2.2.1
        obtain ⟨g, rfl, -, e3, e4, e5, e6, e7, e8⟩ := hown.at_ (by omega)
        have hc := e7 q (by omega)
        have hf := e8 q
        clear e7 e8
        have hq0 : (0 : Int) ≤ (q : Int) := Int.natCast_nonneg _
        have hq1 : (q : Int) < (len : Int) := by omega
        have hST := hI.step (wl_words _) (wl_words _) (by rw [H.out.2.2.1]; exact hql)
        have A1 := fun W => add64 (x := os.getD q 0) (y := (wl n).getD q 0) (c := cy) (hown.2.getD q) ((wl_words _).getD q) hI.1 W
        have hOS := hown.stored (x := s64 (os.getD q 0) ((wl n).getD q 0) cy) (by omega) q (by omega) (s64_in _ _ _)
        have HN := hid (And.intro hST (And.intro hOS hb0))
        clear hST hOS hI hown hol
        by_cases hqy : q < len'
        · obtain ⟨b, off, rfl, f1, f2, f3, f4⟩ := (H.out.2.1).at_ hqy
          have hcy := (hb0.cell (p := ⟨b, off + q, none⟩) f1).trans f4
          have hq2 : (q : Int) < (len' : Int) := by omega
          clear f4
          generalize s64 (os.getD q 0) ((wl n).getD q 0) cy = s at *
          generalize c64 (os.getD q 0) ((wl n).getD q 0) cy = cz at *
          generalize os.getD q 0 = x at *
          generalize (wl n).getD q 0 = y at *
          clear hb0
          go_wp2
          go_roundw
          case rel => exact ⟨q + 1, _, os.set q s, by omega, rfl, by go_num, hid ⟨HN.out.1, HN.out.2.1, by have hb0 := HN.out.2.2; (repeat' (first | (with_reducible assumption) | (with_reducible exact Below.refl _ _) | (with_reducible refine Below.alloc ?_ ?_ _) | (with_reducible refine Below.setCell ?_ ?_ _) | (with_reducible refine Below.drew ?_) | (with_reducible refine below_more ?_ (by with_reducible assumption)) | go_size | omega | (with_reducible refine below_drewN ?_)))⟩⟩
          case measure => simp [intOf]; omega
        · have e0 : (wl n).getD q 0 = 0 := by
            rw [List.getD_eq_getElem?_getD, List.getElem?_eq_none (by rw [H.out.2.2.2.1]; omega)]; rfl
          rw [e0] at A1 HN
          clear e0 hb0
          have hq2 : decide ((q : Int) < (len' : Int)) = false := dF (by omega)
          have hq3 : decide (q < len') = false := dF (by omega)
          generalize s64 (os.getD q 0) 0 cy = s at *
          generalize c64 (os.getD q 0) 0 cy = cz at *
          generalize os.getD q 0 = x at *
          go_wp2
          go_roundw
          case rel => exact ⟨q + 1, _, os.set q s, by omega, rfl, by go_num, hid ⟨HN.out.1, HN.out.2.1, by have hb0 := HN.out.2.2; (repeat' (first | (with_reducible assumption) | (with_reducible exact Below.refl _ _) | (with_reducible refine Below.alloc ?_ ?_ _) | (with_reducible refine Below.setCell ?_ ?_ _) | (with_reducible refine Below.drew ?_) | (with_reducible refine below_more ?_ (by with_reducible assumption)) | go_size | omega | (with_reducible refine below_drewN ?_)))⟩⟩
          case measure => simp [intOf]; omega
      · obtain rfl : q = len := by omega
        obtain ⟨hI, hown, hb0⟩ := HI.out
        have hol : os.length = q := hI.2.1.trans H.out.2.2.1
        have hbit := hI.1
        have eV : VL (os ++ [cy]) = m + n := by
          rw [AddI.done (A := wl m) (B := wl n) (by rw [H.out.2.2.1]; exact hI) (by rw [H.out.2.2.1, H.out.2.2.2.1]; omega), VL_wl (by omega), VL_wl (by omega)]
          try omega
        have HV := hid (And.intro eV hol)
        have HO2 := hid (And.intro hown (And.intro hb0 hbit))
        clear eV hol
        have hsz := hb0.size
        clear HO HI hI hown hb0 hbit
        go_wp2_with (at_builtin; (refine wpList_append_u (ws := os) (ms := [cy]) (v := .slice a1 q c1) (src := .slice (some ⟨wr.heap.size, 0, none⟩) 1 1) _ rfl (.tmp 46) (.tmp 48) 113 113 rfl w.heap.size Try.underlying113 Try.underlying113 hi hz0 hz1 hz2 rfl rfl ?own ?src ?small ?base ?_); rotate_right; intro v2 w2 hown hg hat)
        case own => exact HO2.out.1.below ((Below.refl _ _).alloc (Nat.le_refl _) _)
        case src => exact (OwnU.lit wr [cy] (Ws.one ⟨by have := HO2.out.2.2.1; omega, by have := HO2.out.2.2.2; omega⟩) _ rfl (by simp [maxLen])).sl
        case small => have := HV.out.2; simp; omega
        case base => simp; omega
        have hb2 : Below w.heap.size w w2 := ((HO2.out.2.1).alloc hsz _).grown hg (by simp; omega) (fun k e => by
          have := ((HO2.out.1).1.lt k e).1; exact this)
        clear hg hat
        obtain ⟨a2, c2, rfl⟩ := hown.slice
        have hs2 := hown.sl
        have eV := HV.out.1
        have HC := hid (And.intro (SlF.canon (base := w.heap.size) ⟨hs2, hown.fr (by first | exact Nat.le_refl _ | (simp; done) | (simp; omega))⟩) (And.intro hb2 eV))
        clear hown hb2 eV HV HO2
        (repeat' (first | (go_big_may; (first | (go_at_call 127; refine (rtrim_any _ _ _ _ _ hs2).mono ?_; rintro e w' ⟨rfl, rfl⟩))) | go_values | go_skip | go_guarded | go_step | go_upon | (simp only [Int.not_lt, Int.not_le] at *; go_simp) | (go_values <;> (try go_simp)) | (go_ite <;> go_prune <;> (try go_simp)) | (split <;> (first | (rename_i hx; exact (hx _ rfl).elim) | go_prune))))
        go_ret
        obtain ⟨hc, hb2, eV⟩ := HC.out
        refine ⟨.slice a2 (wl (VL (os ++ [cy]))).length c2, rfl, ?_, hb2⟩
        rw [eV] at hc ⊢
        exact hc
def SubI (A B os : List Int) (i : Nat) (c : Int) : Prop := Bit c ∧ os.length = A.length ∧ VL (os.take i) - pw i * c = TV A i - TV B i ∧ ∀ j, i ≤ j → os.getD j 0 = A.getD j 0
theorem SubI.step {A B os : List Int} {i : Nat} {c : Int} (hA : Ws A) (hB : Ws B) (h : SubI A B os i c) (hi : i < A.length) : SubI A B (os.set i (d64 (os.getD i 0) (B.getD i 0) c)) (i + 1) (b64 (os.getD i 0) (B.getD i 0) c) := by
  obtain ⟨h1, h2, h3, h4⟩ := h
  have e := h4 i (Nat.le_refl _)
  refine ⟨b64_bit _ _ _, by rw [List.length_set]; exact h2, ?_, fun j hj => by rw [getD_set_gt os (by omega)]; exact h4 j (by omega)⟩
  rw [take_set_succ os (by omega), VL_snoc, List.length_take, Nat.min_eq_left (by omega), TV_succ, TV_succ, pw_succ]
  have hu : U64 (os.getD i 0) := by rw [e]; exact hA.getD i
  have := sub_round (d64_diff hu (hB.getD i) h1) h3
  rw [e] at this ⊢
  exact this
theorem SubI.done {A B os : List Int} {c : Int} (hw : Ws os) (h : SubI A B os A.length c) (hl : B.length ≤ A.length) (hle : VL B ≤ VL A) : VL os = VL A - VL B := by
  obtain ⟨⟨c0, c1⟩, h2, h3, h4⟩ := h
  rw [TV_all A A.length (Nat.le_refl _), TV_all B A.length hl, List.take_of_length_le (by omega)] at h3
  have h5 := VL_lt hw
  rw [h2] at h5
  rcases (show c = 0 ∨ c = 1 by omega) with rfl | rfl
  · rw [Int.mul_zero] at h3; omega
  · rw [Int.mul_one] at h3; omega
set_option maxHeartbeats 1000000 in
set_option maxRecDepth 100000 in
theorem rsub_any (a a' : Option Addr) (len cap len' cap' : Nat) (m n : Int) (hn : 0 ≤ n) (hle : n ≤ m) (hs : len ≤ 1000) (w : World) (h : SlU w (.slice a len cap) (wl m)) (h' : SlU w (.slice a' len' cap') (wl n)) :
    Calls Try.prog 77 #[.slice a len cap, .slice a' len' cap'] w (MagP w (m - n)) := by
  obtain ⟨i0, hi, hz0, hz1, hz2⟩ := info_u
  obtain ⟨l1, l2, l3⟩ := h.len
  obtain ⟨g1, g2, g3⟩ := h'.len
  have hll : len' ≤ len := by
    have h1 := (wl_len_lt (show 0 ≤ m by omega) len).1 (by omega)
    have h2 := (wl_len_lt hn len).2 (by omega)
    omega
  have H := hid (And.intro h (And.intro h' (And.intro l1 (And.intro g1 (And.intro l2 (And.intro l3 (And.intro g2 g3)))))))
  clear h h' l1 g1 l2 l3 g2 g3
  go_enter Try.func77, Try.ntmps77
  go_wp2_with (at_builtin; (refine wpList_append_u (ws := []) (ms := wl m) (v := .slice (some ⟨w.heap.size, 0, none⟩) 0 0) (src := .slice a len cap) _ rfl (.tmp 9) (.tmp 10) 113 113 rfl w.heap.size Try.underlying113 Try.underlying113 hi hz0 hz1 hz2 rfl rfl ?own ?src ?small ?base ?_); rotate_right; intro v1 w1 hown hg hat)
  case own => exact OwnU.empty w _ rfl rfl (Nat.le_refl _)
  case src => exact H.out.1.alloc _
  case small => have := H.out.2.2.1; simp only [List.length_nil]; omega
  case base => simp
  have hb1 : Below w.heap.size w w1 := ((Below.refl _ w).alloc (Nat.le_refl _) _).grown hg (by simp) (fun k e => by simp [Value.ownBlock] at e; omega)
  clear hg hat
  simp only [List.nil_append] at hown
  obtain ⟨a1, c1, rfl⟩ := hown.slice
  rw [H.out.2.2.1] at hown ⊢
  have HO := hid (And.intro hown hb1)
  clear hown hb1
  have hxl : (0 : Int) ≤ (len : Int) := Int.natCast_nonneg _
  go_loopw [6, 7, 8] (fun c i x wr => ∃ (q : Nat) (cy : Int) (os : List Int), q ≤ len ∧ c = .int .u64 cy ∧ i = .int .i64 q ∧ Hid (SubI (wl m) (wl n) os q cy ∧ OwnU wr w.heap.size (.slice a1 len c1) os ∧ Below w.heap.size w wr)) (fun _ i _ _ => len - (intOf i).toNat)
  case atStart => exact ⟨0, 0, wl m, Nat.zero_le _, rfl, rfl, hid ⟨⟨Bit.zero, rfl, by simp [TV_zero, pw, VL], fun j _ => rfl⟩, HO.out.1, HO.out.2⟩⟩
  case round =>
    obtain ⟨q, cy, os, hq, rfl, rfl, HI⟩ := hrel
    by_cases hql : q < len
    · obtain ⟨hI, hown, hb0⟩ := HI.out
      have hol : os.length = len := hI.2.1.trans H.out.2.2.1
      obtain ⟨g, rfl, -, e3, e4, e5, e6, e7, e8⟩ := hown.at_ (by omega)
      have hc := e7 q (by omega)
      have hf := e8 q
      clear e7 e8
      have hq0 : (0 : Int) ≤ (q : Int) := Int.natCast_nonneg _
      have hq1 : (q : Int) < (len : Int) := by omega
      have hST := hI.step (wl_words _) (wl_words _) (by rw [H.out.2.2.1]; exact hql)
      have A1 := fun W => sub64 (x := os.getD q 0) (y := (wl n).getD q 0) (b := cy) (hown.2.getD q) ((wl_words _).getD q) hI.1 W
      have hOS := hown.stored (x := d64 (os.getD q 0) ((wl n).getD q 0) cy) (by omega) q (by omega) (d64_in _ _ _)
      have HN := hid (And.intro hST (And.intro hOS hb0))
      clear hST hOS hI hown hol
      by_cases hqy : q < len'
      · obtain ⟨b, off, rfl, f1, f2, f3, f4⟩ := (H.out.2.1).at_ hqy
        have hcy := (hb0.cell (p := ⟨b, off + q, none⟩) f1).trans f4
        have hq2 : (q : Int) < (len' : Int) := by omega
        clear f4
        generalize d64 (os.getD q 0) ((wl n).getD q 0) cy = s at *
        generalize b64 (os.getD q 0) ((wl n).getD q 0) cy = cz at *
        generalize os.getD q 0 = x at *
        generalize (wl n).getD q 0 = y at *
        clear hb0
        go_wp2
        go_roundw
        case rel => exact ⟨q + 1, _, os.set q s, by omega, rfl, by go_num, hid ⟨HN.out.1, HN.out.2.1, by have hb0 := HN.out.2.2; (repeat' (first | (with_reducible assumption) | (with_reducible exact Below.refl _ _) | (with_reducible refine Below.alloc ?_ ?_ _) | (with_reducible refine Below.setCell ?_ ?_ _) | (with_reducible refine Below.drew ?_) | (with_reducible refine below_more ?_ (by with_reducible assumption)) | go_size | omega | (with_reducible refine below_drewN ?_)))⟩⟩
        case measure => simp [intOf]; omega
      · have e0 : (wl n).getD q 0 = 0 := by
          rw [List.getD_eq_getElem?_getD, List.getElem?_eq_none (by rw [H.out.2.2.2.1]; omega)]; rfl
        rw [e0] at A1 HN
        clear e0 hb0
        have hq2 : decide ((q : Int) < (len' : Int)) = false := dF (by omega)
        have hq3 : decide (q < len') = false := dF (by omega)
        generalize d64 (os.getD q 0) 0 cy = s at *
        generalize b64 (os.getD q 0) 0 cy = cz at *
        generalize os.getD q 0 = x at *
        go_wp2
        go_roundw
        case rel => exact ⟨q + 1, _, os.set q s, by omega, rfl, by go_num, hid ⟨HN.out.1, HN.out.2.1, by have hb0 := HN.out.2.2; (repeat' (first | (with_reducible assumption) | (with_reducible exact Below.refl _ _) | (with_reducible refine Below.alloc ?_ ?_ _) | (with_reducible refine Below.setCell ?_ ?_ _) | (with_reducible refine Below.drew ?_) | (with_reducible refine below_more ?_ (by with_reducible assumption)) | go_size | omega | (with_reducible refine below_drewN ?_)))⟩⟩
        case measure => simp [intOf]; omega
    · obtain rfl : q = len := by omega
      obtain ⟨hI, hown, hb0⟩ := HI.out
      have eV : VL os = m - n := by
        rw [SubI.done (A := wl m) (B := wl n) hown.2 (by rw [H.out.2.2.1]; exact hI) (by rw [H.out.2.2.1, H.out.2.2.2.1]; omega) (by rw [VL_wl hn, VL_wl (show 0 ≤ m by omega)]; exact hle), VL_wl (show 0 ≤ m by omega), VL_wl hn]
      have hs2 := hown.sl
      have HC := hid (And.intro (SlF.canon (base := w.heap.size) ⟨hs2, hown.fr (by first | exact Nat.le_refl _ | (simp; done) | (simp; omega))⟩) (And.intro hb0 eV))
      clear HO HI hI hown hb0 eV
      (repeat' (first | (go_big_may; (first | (go_at_call 127; refine (rtrim_any _ _ _ _ _ hs2).mono ?_; rintro e w' ⟨rfl, rfl⟩))) | go_values | go_skip | go_guarded | go_step | go_upon | (simp only [Int.not_lt, Int.not_le] at *; go_simp) | (go_values <;> (try go_simp)) | (go_ite <;> go_prune <;> (try go_simp)) | (split <;> (first | (rename_i hx; exact (hx _ rfl).elim) | go_prune))))
      go_ret
      obtain ⟨hc, hb2, eV⟩ := HC.out
      refine ⟨.slice a1 (wl (VL os)).length c1, rfl, ?_, hb2⟩
      rw [eV] at hc ⊢
      exact hc
theorem quiet_l {P : Program} {f : FuncId} {args : Array Value} {w : World} {n : Nat} {v : Value} (h : Calls P f args (w.drewN n) fun e w' => e = .returned v ∧ w.drewN n = w') : Calls P f args (w.drewN n) fun e w' => e = .returned v ∧ ∃ m, w' = w.drewN m :=
  h.mono fun _ _ ⟨he, hm⟩ => ⟨he, n, hm.symm⟩
theorem OwnU.zeros {w : World} {base n : Nat} {v : Value} (h : w.ownsRow base 35 1 v n (madeCells (Value.int .u64 0).cells (n * 1)).toList) : OwnU w base v (List.replicate n 0) := by
  have e : (madeCells (Value.int .u64 0).cells (n * 1)).toList = uw (List.replicate n 0) := by
    rw [show (Value.int .u64 0).cells = #[Value.int .u64 0] from rfl, toList_madeCells_one, Nat.mul_one]
    simp [uw]
  rw [e] at h
  exact ⟨by rw [List.length_replicate]; exact h, Ws.zeros n⟩
theorem rstep {x y acc cy : Int} (hx : U64 x) (hy : U64 y) (ha : U64 acc) (hc : U64 cy) : ∃ r0 c0 h1 r1 c1 cy' : Int, U64 r1 ∧ U64 cy' ∧ r1 + 18446744073709551616 * cy' = x * y + acc + cy ∧ IntKind.u64.wrap (hi64 x y + c0) = h1 ∧ IntKind.u64.wrap (h1 + c1) = cy' ∧
    (∀ W, (callFunc 128 #[.int .u64 (lo64 x y), .int .u64 acc, .int .u64 0]).run Try.prog W = .ok (.value (.tuple #[.int .u64 r0, .int .u64 c0])) W) ∧
    (∀ W, (callFunc 128 #[.int .u64 r0, .int .u64 cy, .int .u64 0]).run Try.prog W = .ok (.value (.tuple #[.int .u64 r1, .int .u64 c1])) W) := by
  have hl : U64 (lo64 x y) := ⟨by unfold lo64; omega, by unfold lo64; omega⟩
  have A1 := fun W => add64 hl ha Bit.zero W
  have e1 : s64 (lo64 x y) acc 0 = s64 acc (lo64 x y) 0 := by unfold s64; rw [Int.add_comm (lo64 x y) acc]
  have e2 : c64 (lo64 x y) acc 0 = c64 acc (lo64 x y) 0 := by unfold c64; rw [Int.add_comm (lo64 x y) acc]
  rw [e1, e2] at A1
  obtain ⟨r0, c0, h1, r1, c1, cy', m1, m2, m3, m4, m5, m6, m7⟩ := mstep hx hy ha hc
  have A2 := fun W => add64 ha hl Bit.zero W
  have k : r0 = s64 acc (lo64 x y) 0 ∧ c0 = c64 acc (lo64 x y) 0 := by
    have := (m6 default).symm.trans (A2 default)
    simp at this
    exact this
  obtain ⟨rfl, rfl⟩ := k
  exact ⟨_, _, h1, r1, c1, cy', m1, m2, m3, m4, m5, A1, m7⟩
/-- After i rows of the product; after k words of row i. -/
def MulO (A B os : List Int) (i : Nat) : Prop := os.length = A.length + B.length + 1 ∧ VL os = TV A i * VL B ∧ ∀ j, i + B.length ≤ j → os.getD j 0 = 0
def MulK (A B os : List Int) (i k : Nat) (c : Int) : Prop := U64 c ∧ os.length = A.length + B.length + 1 ∧ VL os + pw (i + k) * c = TV A i * VL B + pw i * A.getD i 0 * TV B k ∧ ∀ j, i + B.length ≤ j → os.getD j 0 = 0
theorem MulK.start {A B os : List Int} {i : Nat} (h : MulO A B os i) : MulK A B os i 0 0 :=
  ⟨U64.zero, h.1, by rw [TV_zero, Int.mul_zero, Int.mul_zero, h.2.1], h.2.2⟩
theorem MulK.step {A B os : List Int} {i k : Nat} {c r c' : Int} (h : MulK A B os i k c) (hk : k < B.length) (hi : i < A.length) (hc : U64 c') (e : r + 18446744073709551616 * c' = A.getD i 0 * B.getD k 0 + os.getD (i + k) 0 + c) : MulK A B (os.set (i + k) r) i (k + 1) c' := by
  obtain ⟨h1, h2, h3, h4⟩ := h
  refine ⟨hc, by rw [List.length_set]; exact h2, ?_, fun j hj => by rw [getD_set_gt os (by omega)]; exact h4 j hj⟩
  rw [VL_set os (i + k) (by omega), TV_succ, show i + (k + 1) = (i + k) + 1 by omega, pw_succ, Int.mul_add, ← Int.add_assoc, ← h3]
  generalize os.getD (i + k) 0 = o at *
  generalize A.getD i 0 = x at *
  generalize B.getD k 0 = y at *
  have e3 : pw i * x * (pw k * y) = pw (i + k) * (x * y) := by rw [pw_add]; simp only [Int.mul_assoc]; rw [Int.mul_left_comm x (pw k) y]
  rw [e3]
  generalize pw (i + k) = p
  have e4 : p * (r - o) + 18446744073709551616 * p * c' = p * (r + 18446744073709551616 * c' - o) := by
    rw [Int.mul_sub, Int.mul_sub, Int.mul_add, Int.mul_comm 18446744073709551616 p, Int.mul_assoc]; omega
  rw [e] at e4
  have e5 : p * (x * y + o + c - o) = p * (x * y) + p * c := by rw [← Int.mul_add]; congr 1; omega
  omega
theorem MulK.done {A B os : List Int} {i : Nat} {c : Int} (h : MulK A B os i B.length c) (hi : i < A.length) : MulO A B (os.set (i + B.length) c) (i + 1) := by
  obtain ⟨h1, h2, h3, h4⟩ := h
  refine ⟨by rw [List.length_set]; exact h2, ?_, fun j hj => by rw [getD_set_gt os (by omega)]; exact h4 j (by omega)⟩
  rw [VL_set os _ (by omega), h4 _ (Nat.le_refl _), Int.sub_zero, h3, TV_all B B.length (Nat.le_refl _), TV_succ, Int.add_mul]
theorem MulO.start (A B : List Int) : MulO A B (List.replicate (A.length + B.length + 1) 0) 0 :=
  ⟨by simp, by rw [VL_zeros, TV_zero, Int.zero_mul], fun j hj => by
    rw [List.getD_eq_getElem?_getD]
    rcases Nat.lt_or_ge j (A.length + B.length + 1) with h | h
    · rw [List.getElem?_replicate, if_pos h]; rfl
    · rw [List.getElem?_eq_none (by simpa using h)]; rfl⟩
set_option maxHeartbeats 1000000 in
set_option maxRecDepth 100000 in
theorem rmul_any (a a' : Option Addr) (len cap len' cap' : Nat) (m n : Int) (hm : 0 ≤ m) (hn : 0 ≤ n) (hs : len ≤ 1000) (hs' : len' ≤ 1000) (w : World) (h : SlU w (.slice a len cap) (wl m)) (h' : SlU w (.slice a' len' cap') (wl n)) :
    Calls Try.prog 114 #[.slice a len cap, .slice a' len' cap'] w (MagP w (m * n)) := by
  obtain ⟨i0, hi, hz0, hz1, hz2⟩ := info_u
  obtain ⟨l1, l2, l3⟩ := h.len
  obtain ⟨g1, g2, g3⟩ := h'.len
  obtain ⟨w1, hmk, hown, hg1⟩ := run_make_full (P := Try.prog) w w.heap.size 113 35 i0 (.int .u64 0) 1 Try.underlying113 hi hz0 hz1 .i64 .i64 (len + len' + 1) (by rw [hz2]; omega) (by unfold maxLen; omega) (Nat.le_refl _)
  have hcast : ((len + len' + 1 : Nat) : Int) = (len : Int) + (len' : Int) + 1 := by omega
  rw [hcast] at hmk
  have H := hid (And.intro h (And.intro h' (And.intro l1 (And.intro g1 (And.intro l2 (And.intro l3 (And.intro g2 g3)))))))
  have HO := hid (And.intro (OwnU.zeros hown) (below_gt hg1))
  clear h h' l1 g1 l2 l3 g2 g3 hown hg1 hcast
  go_enter Try.func114, Try.ntmps114
  go_wp2_with fail
  clear hmk
  go_loopw [6, 7, 8, 9, 10, 11] (fun i c k h l cc wr => ∃ (q : Nat) (os : List Int), q ≤ len ∧ i = .int .i64 q ∧ Hid (MulO (wl m) (wl n) os q ∧ OwnU wr w.heap.size (.slice (some ⟨w.heap.size, 0, none⟩) (len + len' + 1) (len + len' + 1)) os ∧ Below w.heap.size w wr)) (fun i _ _ _ _ _ _ => len - (intOf i).toNat)
  case atStart => exact ⟨0, _, Nat.zero_le _, rfl, hid ⟨by have := MulO.start (wl m) (wl n); rw [H.out.2.2.1, H.out.2.2.2.1] at this; exact this, HO.out.1, HO.out.2⟩⟩
  case round =>
    obtain ⟨q, os, hq, rfl, HI⟩ := hrel
    have hq0 : (0 : Int) ≤ (q : Int) := Int.natCast_nonneg _
    by_cases hql : q < len
    · have hq1 : (q : Int) < (len : Int) := by omega
      go_wp2
      obtain ⟨wo, rfl⟩ : ∃ wo : World, wo = wr := ⟨_, rfl⟩
      go_loopw [7, 8, 9, 10, 11] (fun c k h l cc wr => ∃ (p : Nat) (cy : Int) (os : List Int), p ≤ len' ∧ k = .int .i64 p ∧ c = .int .u64 cy ∧ Hid (MulK (wl m) (wl n) os q p cy ∧ OwnU wr w.heap.size (.slice (some ⟨w.heap.size, 0, none⟩) (len + len' + 1) (len + len' + 1)) os ∧ Below w.heap.size w wr)) (fun _ k _ _ _ _ => len' - (intOf k).toNat)
      case atStart => exact ⟨0, 0, os, Nat.zero_le _, rfl, rfl, hid ⟨MulK.start HI.out.1, HI.out.2.1, HI.out.2.2⟩⟩
      case round =>
        obtain ⟨p, cy, os, hp, rfl, rfl, HK⟩ := hrel
        have hp0 : (0 : Int) ≤ (p : Int) := Int.natCast_nonneg _
        obtain ⟨hK, hown, hb0⟩ := HK.out
        have hol : os.length = len + len' + 1 := by rw [hK.2.1, H.out.2.2.1, H.out.2.2.2.1]
        obtain ⟨g, e0, -, e3, e4, e5, e6, e7, e8⟩ := hown.at_ (by omega)
        obtain rfl : w.heap.size = g := by simpa using e0
        clear e0
        by_cases hpl : p < len'
        · have hp1 : (p : Int) < (len' : Int) := by omega
          have ho := e7 (q + p) (by omega)
          have hf := e8 (q + p)
          clear e7 e8
          obtain ⟨b, off, rfl, f1, f2, f3, f4⟩ := (H.out.1).at_ hql
          obtain ⟨b', off', rfl, k1, k2, k3, k4⟩ := (H.out.2.1).at_ hpl
          have hcx := (hb0.cell (p := ⟨b, off + q, none⟩) f1).trans f4
          have hcy := (hb0.cell (p := ⟨b', off' + p, none⟩) k1).trans k4
          clear f4 k4
          obtain ⟨r0, c0, h1, r1, c1, cy', m1, m2, m3, m4, m5, m6, m7⟩ := rstep ((wl_words m).getD q) ((wl_words n).getD p) (hown.2.getD (q + p)) hK.1
          have hux := (wl_words m).getD q
          have huy := (wl_words n).getD p
          have hN := hK.step (r := r1) (by rw [H.out.2.2.2.1]; exact hpl) (by rw [H.out.2.2.1]; exact hql) m2 m3
          have hOS := hown.stored (x := r1) (by omega) (q + p) (by omega) m1
          have HN := hid (And.intro hN (And.intro hOS (And.intro hb0 (And.intro hux huy))))
          clear hN hOS hK hown hol m1 m2 m3 hux huy
          generalize (wl m).getD q 0 = x at *
          generalize (wl n).getD p 0 = y at *
          generalize os.getD (q + p) 0 = acc at *
          have i1 : (0 : Int) ≤ (q : Int) + (p : Int) := by omega
          have i2 : (q : Int) + (p : Int) < (len : Int) + (len' : Int) + 1 := by omega
          have i3 : ((q : Int) + (p : Int)).toNat = q + p := by omega
          have i4 : (q : Int) + (p : Int) ≤ 9223372036854775807 := by omega
          clear hb0
          go_wp2
          go_quiet ((go_at_call 158; exact quiet_l (wmul64_any x y HN.out.2.2.2.1 HN.out.2.2.2.2 _)))
          go_wp2
          go_roundw
          case rel => exact ⟨p + 1, _, os.set (q + p) r1, by omega, by go_num, rfl, hid ⟨HN.out.1, HN.out.2.1, by have hb0 := HN.out.2.2.1; (repeat' (first | (with_reducible assumption) | (with_reducible exact Below.refl _ _) | (with_reducible refine Below.alloc ?_ ?_ _) | (with_reducible refine Below.setCell ?_ ?_ _) | (with_reducible refine Below.drew ?_) | (with_reducible refine below_more ?_ (by with_reducible assumption)) | go_size | omega | (with_reducible refine below_drewN ?_)))⟩⟩
          case measure => simp [intOf]; omega
        · obtain rfl : p = len' := by omega
          have ho := e7 (q + p) (by omega)
          have hf := e8 (q + p)
          clear e7 e8
          have hN := MulK.done (A := wl m) (B := wl n) (os := os) (i := q) (c := cy) (by rw [H.out.2.2.2.1]; exact hK) (by rw [H.out.2.2.1]; exact hql)
          rw [H.out.2.2.2.1] at hN
          have hOS := hown.stored (x := cy) (by omega) (q + p) (by omega) hK.1
          have HN := hid (And.intro hN (And.intro hOS hb0))
          clear hN hOS hK hown hol hb0
          generalize os.getD (q + p) 0 = acc at *
          have i1 : (0 : Int) ≤ (q : Int) + (p : Int) := by omega
          have i2 : (q : Int) + (p : Int) < (len : Int) + (p : Int) + 1 := by omega
          have i3 : ((q : Int) + (p : Int)).toNat = q + p := by omega
          have i4 : (q : Int) + (p : Int) ≤ 9223372036854775807 := by omega
          go_wp2
          go_roundw
          case rel => exact ⟨q + 1, os.set (q + p) cy, by omega, by go_num, hid ⟨HN.out.1, HN.out.2.1, by have hb0 := HN.out.2.2; (repeat' (first | (with_reducible assumption) | (with_reducible exact Below.refl _ _) | (with_reducible refine Below.alloc ?_ ?_ _) | (with_reducible refine Below.setCell ?_ ?_ _) | (with_reducible refine Below.drew ?_) | (with_reducible refine below_more ?_ (by with_reducible assumption)) | go_size | omega | (with_reducible refine below_drewN ?_)))⟩⟩
          case measure => simp [intOf]; omega
    · obtain rfl : q = len := by omega
      obtain ⟨hO, hown, hb0⟩ := HI.out
      have eV : VL os = m * n := by
        rw [hO.2.1, ← H.out.2.2.1, TV_all _ _ (Nat.le_refl _), VL_wl hm, VL_wl hn]
      have hol : os.length = q + len' + 1 := by rw [hO.1, H.out.2.2.1, H.out.2.2.2.1]
      have hs2 : SlU wr (.slice (some ⟨w.heap.size, 0, none⟩) (q + len' + 1) (q + len' + 1)) os := hown.sl
      have HC := hid (And.intro (SlF.canon (base := w.heap.size) ⟨hs2, hown.fr (by first | exact Nat.le_refl _ | (simp; done) | (simp; omega))⟩) (And.intro hb0 eV))
      clear HI hO hown hb0 eV hol
      (repeat' (first | (go_big_may; (first | (go_at_call 127; refine (rtrim_any _ _ _ _ _ hs2).mono ?_; rintro e w' ⟨rfl, rfl⟩))) | go_values | go_skip | go_guarded | go_step | go_upon | (simp only [Int.not_lt, Int.not_le] at *; go_simp) | (go_values <;> (try go_simp)) | (go_ite <;> go_prune <;> (try go_simp)) | (split <;> (first | (rename_i hx; exact (hx _ rfl).elim) | go_prune))))
      go_ret
      obtain ⟨hc, hb2, eV⟩ := HC.out
      refine ⟨.slice (some ⟨w.heap.size, 0, none⟩) (wl (VL os)).length (q + len' + 1), rfl, ?_, hb2⟩
      rw [eV] at hc ⊢
      exact hc
end Go.Proofs.Ytncmmbacoknefaa

/- WideC: The package wide, continued: sums, differences, products. -/
namespace Go.Proofs.Ytncmmbacoknefaa
open Go.ChangeShapes Go.WideShapes Go.ChangeAt Go.RowKit
set_option linter.unusedVariables false
set_option linter.unusedSimpArgs false
set_option maxHeartbeats 3000000 in
theorem add_any (n : Bool) (a b c d : Int) (n' : Bool) (a' b' c' d' : Int) (ha : U64 a) (hb : U64 b) (hc : U64 c) (hd : U64 d) (ha' : U64 a') (hb' : U64 b') (hc' : U64 c') (hd' : U64 d') (w : World) :
    Calls Try.prog 84 #[WV n a b c d, WV n' a' b' c' d'] w fun e w' => e = .returned (.tuple #[WE (cl (wv n a b c d + wv n' a' b' c' d')), .bool (fb (wv n a b c d + wv n' a' b' c' d'))]) ∧ Below w.heap.size w w' := by
  obtain ⟨z, hz⟩ : ∃ z, z = wv n a b c d + wv n' a' b' c' d' := ⟨_, rfl⟩
  rw [← hz]
  generalize hR : Value.tuple #[WE (cl z), .bool (fb z)] = R
  have HR := hid hR
  clear hR
  rw [wv_sv n a b c d, wv_sv n' a' b' c' d'] at hz
  have m1 := mv_nonneg ha hb hc hd
  have m2 := mv_nonneg ha' hb' hc' hd'
  have u1 := mv_up4 ha hb hc hd
  have u2 := mv_up4 ha' hb' hc' hd'
  have C1 := hid (cm4_mv (a3 := d) (b3 := d') ha hb hc ha' hb' hc')
  have H := hid (And.intro hz (And.intro m1 (And.intro m2 (And.intro u1 u2))))
  clear hz m1 m2 u1 u2
  go_enter Try.func84, Try.ntmps84
  go_wp2_with fail
  (refine wp_region_dq (row := none) (S := (fun Wz => Below w.heap.size w Wz ∧ w.heap.size + 3 ≤ Wz.heap.size ∧ Bx Wz (w.heap.size) (#[.bool n, .int .u64 a, .int .u64 b, .int .u64 c, .int .u64 d]) ∧ Bx Wz (w.heap.size + 1) (#[.bool n', .int .u64 a', .int .u64 b', .int .u64 c', .int .u64 d']) ∧ Bx Wz (w.heap.size + 1 + 1) (#[.bool false, .int .u64 0, .int .u64 0, .int .u64 0, .int .u64 0]))) (n0 := w.heap.size + 3) 4 [] [(0, 0), (1, 0), (2, 0), (3, 0)] [] (by kernel_rfl) (by kernel_rfl) (fun _ _ d _ _ h => by cases d <;> exact h) ⟨by (repeat' (first | (with_reducible assumption) | (with_reducible exact Below.refl _ _) | (with_reducible refine Below.alloc ?_ ?_ _) | (with_reducible refine Below.setCell ?_ ?_ _) | (with_reducible refine Below.drew ?_) | (with_reducible refine below_more ?_ (by with_reducible assumption)) | go_size | omega | (with_reducible refine below_drewN ?_))), (by first | go_size | omega), Bx.of (by (repeat' (first | (with_reducible assumption) | ((with_reducible refine HB.new _ _ _ ?_) <;> (go_size; done)) | (with_reducible refine HB.old (by go_size) ?_) | (with_reducible refine HB.drew ?_) | (with_reducible refine HB.over5 ?_) | (with_reducible refine HB.over4 ?_) | (with_reducible refine HB.setne (by first | go_size | (dsimp only; omega)) ?_) | (with_reducible refine HN.set ?_) | (with_reducible refine HN.setne (by first | go_size | (dsimp only; omega)) ?_) | (with_reducible refine HN.drew ?_) | (with_reducible refine HN.old (by go_size) ?_) | (with_reducible exact HN.of5 (by assumption)) | (with_reducible exact HN.new5 _ _ (by go_size)) | (with_reducible exact HN.of4 (by assumption)) | (with_reducible exact HN.new4 _ _ (by go_size))))), Bx.of (by (repeat' (first | (with_reducible assumption) | ((with_reducible refine HB.new _ _ _ ?_) <;> (go_size; done)) | (with_reducible refine HB.old (by go_size) ?_) | (with_reducible refine HB.drew ?_) | (with_reducible refine HB.over5 ?_) | (with_reducible refine HB.over4 ?_) | (with_reducible refine HB.setne (by first | go_size | (dsimp only; omega)) ?_) | (with_reducible refine HN.set ?_) | (with_reducible refine HN.setne (by first | go_size | (dsimp only; omega)) ?_) | (with_reducible refine HN.drew ?_) | (with_reducible refine HN.old (by go_size) ?_) | (with_reducible exact HN.of5 (by assumption)) | (with_reducible exact HN.new5 _ _ (by go_size)) | (with_reducible exact HN.of4 (by assumption)) | (with_reducible exact HN.new4 _ _ (by go_size))))), Bx.of (by (repeat' (first | (with_reducible assumption) | ((with_reducible refine HB.new _ _ _ ?_) <;> (go_size; done)) | (with_reducible refine HB.old (by go_size) ?_) | (with_reducible refine HB.drew ?_) | (with_reducible refine HB.over5 ?_) | (with_reducible refine HB.over4 ?_) | (with_reducible refine HB.setne (by first | go_size | (dsimp only; omega)) ?_) | (with_reducible refine HN.set ?_) | (with_reducible refine HN.setne (by first | go_size | (dsimp only; omega)) ?_) | (with_reducible refine HN.drew ?_) | (with_reducible refine HN.old (by go_size) ?_) | (with_reducible exact HN.of5 (by assumption)) | (with_reducible exact HN.new5 _ _ (by go_size)) | (with_reducible exact HN.of4 (by assumption)) | (with_reducible exact HN.new4 _ _ (by go_size)))))⟩ (fun _ _ h g => keep3 h (below_gt g) rfl) (fun _ h => h.2.1) (fun _ h => by cases h) (by simp) ?_)
  refine' dq_pure (by rfl) (by rfl) ?hv1 ?rest1
  case hv1 => (intro w hw; (try dsimp only at hw); go_split_ands; go_simp; try with_reducible rfl)
  case' rest1 => try simp only [Act.put, List.setIfInBounds_toArray, List.set_cons_zero, List.set_cons_succ]
  refine' dq_call (by rfl) (by rfl) ?hv2 ?hc2 ?rest2
  case hv2 => (intro w; go_simp; exact ⟨rfl, rfl⟩)
  case hc2 => exact (fun w hw => calls_gt (clean_any _ _ _ _ _ _))
  case' rest2 => try simp only [Act.put, List.setIfInBounds_toArray, List.set_cons_zero, List.set_cons_succ]
  refine' dq_pure (by rfl) (by rfl) ?hv3 ?rest3
  case hv3 => (intro w hw; (try dsimp only at hw); go_split_ands; go_simp; try with_reducible rfl)
  case' rest3 => try simp only [Act.put, List.setIfInBounds_toArray, List.set_cons_zero, List.set_cons_succ]
  refine' dq_call (by rfl) (by rfl) ?hv4 ?hc4 ?rest4
  case hv4 => (intro w; go_simp; exact ⟨rfl, rfl⟩)
  case hc4 => exact (fun w hw => calls_gt (clean_any _ _ _ _ _ _))
  case' rest4 => try simp only [Act.put, List.setIfInBounds_toArray, List.set_cons_zero, List.set_cons_succ]
  refine dq_nil ?_
  simp only [fa, List.drop_succ_cons, List.drop_zero]
  rintro W ⟨⟨hb0, hn0, ⟨B1, B1c, B1f, B1l⟩, ⟨B2, B2c, B2f, B2l⟩, ⟨B3, B3c, B3f, B3l⟩⟩, hgl⟩ hbs
  clear hbs hgl
  generalize cn n a b c d = p at *
  generalize cn n' a' b' c' d' = q at *
  obtain ⟨hz, m1, m2, u1, u2⟩ := H.out
  clear H
  by_cases hpq : p = q
  · subst hpq
    rw [sv_add] at hz
    
    by_cases hu : up4 (MV a b c d + MV a' b' c' d') = 0
    · have hf : Fits (sv p (MV a b c d + MV a' b' c' d')) := (fits_sv (by omega)).2 hu
      have E := hid (And.intro ((sv_signed (p := p) (m := MV a b c d + MV a' b' c' d') (by omega) hu).trans (by rw [hz, cl_fit hf]) : _ = WE (cl z)) (by rw [hz, fb_fit hf] : true = fb z))
      have T : (up4 (MV a b c d + MV a' b' c' d') != 0) = false := by rw [hu]; rfl
      clear hu hf hz m1 m2 u1 u2 C1
      (repeat' (first | (go_big_may; (first | (go_at_call 139; refine (wadd_any a b c d a' b' c' d' ha hb hc hd ha' hb' hc' hd' _).mono ?_; rintro e w' ⟨rfl, hbw⟩; have N1 := Bx.of (HB.below (b := w.heap.size) (cs := #[.bool p, .int .u64 a, .int .u64 b, .int .u64 c, .int .u64 d]) (by (repeat' (first | (with_reducible assumption) | ((with_reducible refine HB.new _ _ _ ?_) <;> (go_size; done)) | (with_reducible refine HB.old (by go_size) ?_) | (with_reducible refine HB.drew ?_) | (with_reducible refine HB.over5 ?_) | (with_reducible refine HB.over4 ?_) | (with_reducible refine HB.setne (by first | go_size | (dsimp only; omega)) ?_) | (with_reducible refine HN.set ?_) | (with_reducible refine HN.setne (by first | go_size | (dsimp only; omega)) ?_) | (with_reducible refine HN.drew ?_) | (with_reducible refine HN.old (by go_size) ?_) | (with_reducible exact HN.of5 (by assumption)) | (with_reducible exact HN.new5 _ _ (by go_size)) | (with_reducible exact HN.of4 (by assumption)) | (with_reducible exact HN.new4 _ _ (by go_size))))) hbw); have N2 := Bx.of (HB.below (b := w.heap.size + 1) (cs := #[.bool p, .int .u64 a', .int .u64 b', .int .u64 c', .int .u64 d']) (by (repeat' (first | (with_reducible assumption) | ((with_reducible refine HB.new _ _ _ ?_) <;> (go_size; done)) | (with_reducible refine HB.old (by go_size) ?_) | (with_reducible refine HB.drew ?_) | (with_reducible refine HB.over5 ?_) | (with_reducible refine HB.over4 ?_) | (with_reducible refine HB.setne (by first | go_size | (dsimp only; omega)) ?_) | (with_reducible refine HN.set ?_) | (with_reducible refine HN.setne (by first | go_size | (dsimp only; omega)) ?_) | (with_reducible refine HN.drew ?_) | (with_reducible refine HN.old (by go_size) ?_) | (with_reducible exact HN.of5 (by assumption)) | (with_reducible exact HN.new5 _ _ (by go_size)) | (with_reducible exact HN.of4 (by assumption)) | (with_reducible exact HN.new4 _ _ (by go_size))))) hbw); have N3 := Bx.of (HB.below (b := w.heap.size + 1 + 1) (cs := #[.bool false, .int .u64 0, .int .u64 0, .int .u64 0, .int .u64 0]) (by (repeat' (first | (with_reducible assumption) | ((with_reducible refine HB.new _ _ _ ?_) <;> (go_size; done)) | (with_reducible refine HB.old (by go_size) ?_) | (with_reducible refine HB.drew ?_) | (with_reducible refine HB.over5 ?_) | (with_reducible refine HB.over4 ?_) | (with_reducible refine HB.setne (by first | go_size | (dsimp only; omega)) ?_) | (with_reducible refine HN.set ?_) | (with_reducible refine HN.setne (by first | go_size | (dsimp only; omega)) ?_) | (with_reducible refine HN.drew ?_) | (with_reducible refine HN.old (by go_size) ?_) | (with_reducible exact HN.of5 (by assumption)) | (with_reducible exact HN.new5 _ _ (by go_size)) | (with_reducible exact HN.of4 (by assumption)) | (with_reducible exact HN.new4 _ _ (by go_size))))) hbw); (try clear B1 B1c B1f B1l); (try clear B2 B2c B2f B2l); (try clear B3 B3c B3f B3l); obtain ⟨B1, B1c, B1f, B1l⟩ := N1; obtain ⟨B2, B2c, B2f, B2l⟩ := N2; obtain ⟨B3, B3c, B3f, B3l⟩ := N3; have hsz := hbw.size; (try simp only [World.size_alloc, World.size_setCell, World.size_drew] at hsz)) | (go_at_call 140; refine (signed_any _ _ _ _ _ _).mono ?_; rintro e w' ⟨rfl, hbw⟩; have N1 := Bx.of (HB.below (b := w.heap.size) (cs := #[.bool p, .int .u64 a, .int .u64 b, .int .u64 c, .int .u64 d]) (by (repeat' (first | (with_reducible assumption) | ((with_reducible refine HB.new _ _ _ ?_) <;> (go_size; done)) | (with_reducible refine HB.old (by go_size) ?_) | (with_reducible refine HB.drew ?_) | (with_reducible refine HB.over5 ?_) | (with_reducible refine HB.over4 ?_) | (with_reducible refine HB.setne (by first | go_size | (dsimp only; omega)) ?_) | (with_reducible refine HN.set ?_) | (with_reducible refine HN.setne (by first | go_size | (dsimp only; omega)) ?_) | (with_reducible refine HN.drew ?_) | (with_reducible refine HN.old (by go_size) ?_) | (with_reducible exact HN.of5 (by assumption)) | (with_reducible exact HN.new5 _ _ (by go_size)) | (with_reducible exact HN.of4 (by assumption)) | (with_reducible exact HN.new4 _ _ (by go_size))))) hbw); have N2 := Bx.of (HB.below (b := w.heap.size + 1) (cs := #[.bool p, .int .u64 a', .int .u64 b', .int .u64 c', .int .u64 d']) (by (repeat' (first | (with_reducible assumption) | ((with_reducible refine HB.new _ _ _ ?_) <;> (go_size; done)) | (with_reducible refine HB.old (by go_size) ?_) | (with_reducible refine HB.drew ?_) | (with_reducible refine HB.over5 ?_) | (with_reducible refine HB.over4 ?_) | (with_reducible refine HB.setne (by first | go_size | (dsimp only; omega)) ?_) | (with_reducible refine HN.set ?_) | (with_reducible refine HN.setne (by first | go_size | (dsimp only; omega)) ?_) | (with_reducible refine HN.drew ?_) | (with_reducible refine HN.old (by go_size) ?_) | (with_reducible exact HN.of5 (by assumption)) | (with_reducible exact HN.new5 _ _ (by go_size)) | (with_reducible exact HN.of4 (by assumption)) | (with_reducible exact HN.new4 _ _ (by go_size))))) hbw); have N3 := Bx.of (HB.below (b := w.heap.size + 1 + 1) (cs := #[.bool false, .int .u64 0, .int .u64 0, .int .u64 0, .int .u64 0]) (by (repeat' (first | (with_reducible assumption) | ((with_reducible refine HB.new _ _ _ ?_) <;> (go_size; done)) | (with_reducible refine HB.old (by go_size) ?_) | (with_reducible refine HB.drew ?_) | (with_reducible refine HB.over5 ?_) | (with_reducible refine HB.over4 ?_) | (with_reducible refine HB.setne (by first | go_size | (dsimp only; omega)) ?_) | (with_reducible refine HN.set ?_) | (with_reducible refine HN.setne (by first | go_size | (dsimp only; omega)) ?_) | (with_reducible refine HN.drew ?_) | (with_reducible refine HN.old (by go_size) ?_) | (with_reducible exact HN.of5 (by assumption)) | (with_reducible exact HN.new5 _ _ (by go_size)) | (with_reducible exact HN.of4 (by assumption)) | (with_reducible exact HN.new4 _ _ (by go_size))))) hbw); (try clear B1 B1c B1f B1l); (try clear B2 B2c B2f B2l); (try clear B3 B3c B3f B3l); obtain ⟨B1, B1c, B1f, B1l⟩ := N1; obtain ⟨B2, B2c, B2f, B2l⟩ := N2; obtain ⟨B3, B3c, B3f, B3l⟩ := N3; have hsz := hbw.size; (try simp only [World.size_alloc, World.size_setCell, World.size_drew] at hsz)))) | go_values | go_skip | go_guarded | go_step | go_upon | (simp only [Int.not_lt, Int.not_le] at *; go_simp) | (go_values <;> (try go_simp)) | (go_ite <;> go_prune <;> (try go_simp)) | (split <;> (first | (rename_i hx; exact (hx _ rfl).elim) | go_prune))))
      refine bodyPost_ret (v := .tuple #[_, .bool true]) ?_ rfl ⟨congrArg Ending.returned ((ret_w E.out.1 E.out.2).trans HR.out), by (repeat' (first | (with_reducible assumption) | (with_reducible exact Below.refl _ _) | (with_reducible refine Below.alloc ?_ ?_ _) | (with_reducible refine Below.setCell ?_ ?_ _) | (with_reducible refine Below.drew ?_) | (with_reducible refine below_more ?_ (by with_reducible assumption)) | go_size | omega | (with_reducible refine below_drewN ?_)))⟩
      simp [results, Try.results84, go_sem, B3c, B3f, B3l]
    · have hf : ¬Fits (sv p (MV a b c d + MV a' b' c' d')) := fun h => hu ((fits_sv (by omega)).1 h)
      have E := hid (And.intro (we_zero.symm.trans (by rw [hz, cl_not hf]) : WV false 0 0 0 0 = WE (cl z)) (by rw [hz, fb_not hf] : false = fb z))
      have T : (up4 (MV a b c d + MV a' b' c' d') != 0) = true := bne_iff_ne.2 hu
      clear hu hf hz m1 m2 u1 u2 C1
      (repeat' (first | (go_big_may; (first | (go_at_call 139; refine (wadd_any a b c d a' b' c' d' ha hb hc hd ha' hb' hc' hd' _).mono ?_; rintro e w' ⟨rfl, hbw⟩; have N1 := Bx.of (HB.below (b := w.heap.size) (cs := #[.bool p, .int .u64 a, .int .u64 b, .int .u64 c, .int .u64 d]) (by (repeat' (first | (with_reducible assumption) | ((with_reducible refine HB.new _ _ _ ?_) <;> (go_size; done)) | (with_reducible refine HB.old (by go_size) ?_) | (with_reducible refine HB.drew ?_) | (with_reducible refine HB.over5 ?_) | (with_reducible refine HB.over4 ?_) | (with_reducible refine HB.setne (by first | go_size | (dsimp only; omega)) ?_) | (with_reducible refine HN.set ?_) | (with_reducible refine HN.setne (by first | go_size | (dsimp only; omega)) ?_) | (with_reducible refine HN.drew ?_) | (with_reducible refine HN.old (by go_size) ?_) | (with_reducible exact HN.of5 (by assumption)) | (with_reducible exact HN.new5 _ _ (by go_size)) | (with_reducible exact HN.of4 (by assumption)) | (with_reducible exact HN.new4 _ _ (by go_size))))) hbw); have N2 := Bx.of (HB.below (b := w.heap.size + 1) (cs := #[.bool p, .int .u64 a', .int .u64 b', .int .u64 c', .int .u64 d']) (by (repeat' (first | (with_reducible assumption) | ((with_reducible refine HB.new _ _ _ ?_) <;> (go_size; done)) | (with_reducible refine HB.old (by go_size) ?_) | (with_reducible refine HB.drew ?_) | (with_reducible refine HB.over5 ?_) | (with_reducible refine HB.over4 ?_) | (with_reducible refine HB.setne (by first | go_size | (dsimp only; omega)) ?_) | (with_reducible refine HN.set ?_) | (with_reducible refine HN.setne (by first | go_size | (dsimp only; omega)) ?_) | (with_reducible refine HN.drew ?_) | (with_reducible refine HN.old (by go_size) ?_) | (with_reducible exact HN.of5 (by assumption)) | (with_reducible exact HN.new5 _ _ (by go_size)) | (with_reducible exact HN.of4 (by assumption)) | (with_reducible exact HN.new4 _ _ (by go_size))))) hbw); have N3 := Bx.of (HB.below (b := w.heap.size + 1 + 1) (cs := #[.bool false, .int .u64 0, .int .u64 0, .int .u64 0, .int .u64 0]) (by (repeat' (first | (with_reducible assumption) | ((with_reducible refine HB.new _ _ _ ?_) <;> (go_size; done)) | (with_reducible refine HB.old (by go_size) ?_) | (with_reducible refine HB.drew ?_) | (with_reducible refine HB.over5 ?_) | (with_reducible refine HB.over4 ?_) | (with_reducible refine HB.setne (by first | go_size | (dsimp only; omega)) ?_) | (with_reducible refine HN.set ?_) | (with_reducible refine HN.setne (by first | go_size | (dsimp only; omega)) ?_) | (with_reducible refine HN.drew ?_) | (with_reducible refine HN.old (by go_size) ?_) | (with_reducible exact HN.of5 (by assumption)) | (with_reducible exact HN.new5 _ _ (by go_size)) | (with_reducible exact HN.of4 (by assumption)) | (with_reducible exact HN.new4 _ _ (by go_size))))) hbw); (try clear B1 B1c B1f B1l); (try clear B2 B2c B2f B2l); (try clear B3 B3c B3f B3l); obtain ⟨B1, B1c, B1f, B1l⟩ := N1; obtain ⟨B2, B2c, B2f, B2l⟩ := N2; obtain ⟨B3, B3c, B3f, B3l⟩ := N3; have hsz := hbw.size; (try simp only [World.size_alloc, World.size_setCell, World.size_drew] at hsz)))) | go_values | go_skip | go_guarded | go_step | go_upon | (simp only [Int.not_lt, Int.not_le] at *; go_simp) | (go_values <;> (try go_simp)) | (go_ite <;> go_prune <;> (try go_simp)) | (split <;> (first | (rename_i hx; exact (hx _ rfl).elim) | go_prune))))
      refine bodyPost_ret (v := .tuple #[WV false 0 0 0 0, .bool false]) ?_ rfl ⟨congrArg Ending.returned ((ret_w E.out.1 E.out.2).trans HR.out), by (repeat' (first | (with_reducible assumption) | (with_reducible exact Below.refl _ _) | (with_reducible refine Below.alloc ?_ ?_ _) | (with_reducible refine Below.setCell ?_ ?_ _) | (with_reducible refine Below.drew ?_) | (with_reducible refine below_more ?_ (by with_reducible assumption)) | go_size | omega | (with_reducible refine below_drewN ?_)))⟩
      simp [results, Try.results84, go_sem, B3c, B3f, B3l]
  · have T0 : (p == q) = false := beq_eq_false_iff_ne.2 hpq
    by_cases hle : MV a' b' c' d' ≤ MV a b c d
    · have hu : up4 (MV a b c d - MV a' b' c' d') = 0 := up4_le (by omega) (by omega) u1
      have hz' := hz.trans (sv_sub hpq _ _)
      have hf : Fits (sv p (MV a b c d - MV a' b' c' d')) := (fits_sv (by omega)).2 hu
      have E := hid (And.intro ((sv_signed (p := p) (m := MV a b c d - MV a' b' c' d') (by omega) hu).trans (by rw [hz', cl_fit hf]) : _ = WE (cl z)) (by rw [hz', fb_fit hf] : true = fb z))
      have T : decide (0 ≤ cm4 a b c d a' b' c' d') = true := by rw [C1.out]; exact dT ((cm_ge _ _).2 hle)
      clear hu hf hz hz' m1 m2 u1 u2 C1 hle hpq
      (repeat' (first | (go_big_may; (first | (go_at_call 141; refine (wcompare_any a b c d a' b' c' d' _).mono ?_; rintro e w' ⟨rfl, hbw⟩; have N1 := Bx.of (HB.below (b := w.heap.size) (cs := #[.bool p, .int .u64 a, .int .u64 b, .int .u64 c, .int .u64 d]) (by (repeat' (first | (with_reducible assumption) | ((with_reducible refine HB.new _ _ _ ?_) <;> (go_size; done)) | (with_reducible refine HB.old (by go_size) ?_) | (with_reducible refine HB.drew ?_) | (with_reducible refine HB.over5 ?_) | (with_reducible refine HB.over4 ?_) | (with_reducible refine HB.setne (by first | go_size | (dsimp only; omega)) ?_) | (with_reducible refine HN.set ?_) | (with_reducible refine HN.setne (by first | go_size | (dsimp only; omega)) ?_) | (with_reducible refine HN.drew ?_) | (with_reducible refine HN.old (by go_size) ?_) | (with_reducible exact HN.of5 (by assumption)) | (with_reducible exact HN.new5 _ _ (by go_size)) | (with_reducible exact HN.of4 (by assumption)) | (with_reducible exact HN.new4 _ _ (by go_size))))) hbw); have N2 := Bx.of (HB.below (b := w.heap.size + 1) (cs := #[.bool q, .int .u64 a', .int .u64 b', .int .u64 c', .int .u64 d']) (by (repeat' (first | (with_reducible assumption) | ((with_reducible refine HB.new _ _ _ ?_) <;> (go_size; done)) | (with_reducible refine HB.old (by go_size) ?_) | (with_reducible refine HB.drew ?_) | (with_reducible refine HB.over5 ?_) | (with_reducible refine HB.over4 ?_) | (with_reducible refine HB.setne (by first | go_size | (dsimp only; omega)) ?_) | (with_reducible refine HN.set ?_) | (with_reducible refine HN.setne (by first | go_size | (dsimp only; omega)) ?_) | (with_reducible refine HN.drew ?_) | (with_reducible refine HN.old (by go_size) ?_) | (with_reducible exact HN.of5 (by assumption)) | (with_reducible exact HN.new5 _ _ (by go_size)) | (with_reducible exact HN.of4 (by assumption)) | (with_reducible exact HN.new4 _ _ (by go_size))))) hbw); have N3 := Bx.of (HB.below (b := w.heap.size + 1 + 1) (cs := #[.bool false, .int .u64 0, .int .u64 0, .int .u64 0, .int .u64 0]) (by (repeat' (first | (with_reducible assumption) | ((with_reducible refine HB.new _ _ _ ?_) <;> (go_size; done)) | (with_reducible refine HB.old (by go_size) ?_) | (with_reducible refine HB.drew ?_) | (with_reducible refine HB.over5 ?_) | (with_reducible refine HB.over4 ?_) | (with_reducible refine HB.setne (by first | go_size | (dsimp only; omega)) ?_) | (with_reducible refine HN.set ?_) | (with_reducible refine HN.setne (by first | go_size | (dsimp only; omega)) ?_) | (with_reducible refine HN.drew ?_) | (with_reducible refine HN.old (by go_size) ?_) | (with_reducible exact HN.of5 (by assumption)) | (with_reducible exact HN.new5 _ _ (by go_size)) | (with_reducible exact HN.of4 (by assumption)) | (with_reducible exact HN.new4 _ _ (by go_size))))) hbw); (try clear B1 B1c B1f B1l); (try clear B2 B2c B2f B2l); (try clear B3 B3c B3f B3l); obtain ⟨B1, B1c, B1f, B1l⟩ := N1; obtain ⟨B2, B2c, B2f, B2l⟩ := N2; obtain ⟨B3, B3c, B3f, B3l⟩ := N3; have hsz := hbw.size; (try simp only [World.size_alloc, World.size_setCell, World.size_drew] at hsz)))) | go_values | go_skip | go_guarded | go_step | go_upon | (simp only [Int.not_lt, Int.not_le] at *; go_simp) | (go_values <;> (try go_simp)) | (go_ite <;> go_prune <;> (try go_simp)) | (split <;> (first | (rename_i hx; exact (hx _ rfl).elim) | go_prune))))
      
      (refine wp_region_dq (row := none) (S := (fun Wz => Below w.heap.size w Wz ∧ w.heap.size + 3 ≤ Wz.heap.size ∧ Bx Wz (w.heap.size) (#[.bool p, .int .u64 a, .int .u64 b, .int .u64 c, .int .u64 d]) ∧ Bx Wz (w.heap.size + 1) (#[.bool q, .int .u64 a', .int .u64 b', .int .u64 c', .int .u64 d']) ∧ Bx Wz (w.heap.size + 1 + 1) (#[.bool false, .int .u64 0, .int .u64 0, .int .u64 0, .int .u64 0]))) (n0 := w.heap.size + 3) 8 [] [(0, 0), (1, 0), (2, 0), (3, 0), (4, 0), (5, 0), (6, 0), (7, 0)] [] (by kernel_rfl) (by kernel_rfl) (fun _ _ d _ _ h => by cases d <;> exact h) ⟨by (repeat' (first | (with_reducible assumption) | (with_reducible exact Below.refl _ _) | (with_reducible refine Below.alloc ?_ ?_ _) | (with_reducible refine Below.setCell ?_ ?_ _) | (with_reducible refine Below.drew ?_) | (with_reducible refine below_more ?_ (by with_reducible assumption)) | go_size | omega | (with_reducible refine below_drewN ?_))), (by first | go_size | omega), Bx.of (by (repeat' (first | (with_reducible assumption) | ((with_reducible refine HB.new _ _ _ ?_) <;> (go_size; done)) | (with_reducible refine HB.old (by go_size) ?_) | (with_reducible refine HB.drew ?_) | (with_reducible refine HB.over5 ?_) | (with_reducible refine HB.over4 ?_) | (with_reducible refine HB.setne (by first | go_size | (dsimp only; omega)) ?_) | (with_reducible refine HN.set ?_) | (with_reducible refine HN.setne (by first | go_size | (dsimp only; omega)) ?_) | (with_reducible refine HN.drew ?_) | (with_reducible refine HN.old (by go_size) ?_) | (with_reducible exact HN.of5 (by assumption)) | (with_reducible exact HN.new5 _ _ (by go_size)) | (with_reducible exact HN.of4 (by assumption)) | (with_reducible exact HN.new4 _ _ (by go_size))))), Bx.of (by (repeat' (first | (with_reducible assumption) | ((with_reducible refine HB.new _ _ _ ?_) <;> (go_size; done)) | (with_reducible refine HB.old (by go_size) ?_) | (with_reducible refine HB.drew ?_) | (with_reducible refine HB.over5 ?_) | (with_reducible refine HB.over4 ?_) | (with_reducible refine HB.setne (by first | go_size | (dsimp only; omega)) ?_) | (with_reducible refine HN.set ?_) | (with_reducible refine HN.setne (by first | go_size | (dsimp only; omega)) ?_) | (with_reducible refine HN.drew ?_) | (with_reducible refine HN.old (by go_size) ?_) | (with_reducible exact HN.of5 (by assumption)) | (with_reducible exact HN.new5 _ _ (by go_size)) | (with_reducible exact HN.of4 (by assumption)) | (with_reducible exact HN.new4 _ _ (by go_size))))), Bx.of (by (repeat' (first | (with_reducible assumption) | ((with_reducible refine HB.new _ _ _ ?_) <;> (go_size; done)) | (with_reducible refine HB.old (by go_size) ?_) | (with_reducible refine HB.drew ?_) | (with_reducible refine HB.over5 ?_) | (with_reducible refine HB.over4 ?_) | (with_reducible refine HB.setne (by first | go_size | (dsimp only; omega)) ?_) | (with_reducible refine HN.set ?_) | (with_reducible refine HN.setne (by first | go_size | (dsimp only; omega)) ?_) | (with_reducible refine HN.drew ?_) | (with_reducible refine HN.old (by go_size) ?_) | (with_reducible exact HN.of5 (by assumption)) | (with_reducible exact HN.new5 _ _ (by go_size)) | (with_reducible exact HN.of4 (by assumption)) | (with_reducible exact HN.new4 _ _ (by go_size)))))⟩ (fun _ _ h g => keep3 h (below_gt g) rfl) (fun _ h => h.2.1) (fun _ h => by cases h) (by simp) ?_)
      refine' dq_pure (by rfl) (by rfl) ?hv5 ?rest5
      case hv5 => (intro w hw; (try dsimp only at hw); go_split_ands; go_simp; try with_reducible rfl)
      case' rest5 => try simp only [Act.put, List.setIfInBounds_toArray, List.set_cons_zero, List.set_cons_succ]
      refine' dq_pure (by rfl) (by rfl) ?hv6 ?rest6
      case hv6 => (intro w hw; (try dsimp only at hw); go_split_ands; go_simp; try with_reducible rfl)
      case' rest6 => try simp only [Act.put, List.setIfInBounds_toArray, List.set_cons_zero, List.set_cons_succ]
      refine' dq_pure (by rfl) (by rfl) ?hv7 ?rest7
      case hv7 => (intro w hw; (try dsimp only at hw); go_split_ands; go_simp; try with_reducible rfl)
      case' rest7 => try simp only [Act.put, List.setIfInBounds_toArray, List.set_cons_zero, List.set_cons_succ]
      refine' dq_pure (by rfl) (by rfl) ?hv8 ?rest8
      case hv8 => (intro w hw; (try dsimp only at hw); go_split_ands; go_simp; try with_reducible rfl)
      case' rest8 => try simp only [Act.put, List.setIfInBounds_toArray, List.set_cons_zero, List.set_cons_succ]
      refine' dq_pure (by rfl) (by rfl) ?hv9 ?rest9
      case hv9 => (intro w hw; (try dsimp only at hw); go_split_ands; go_simp; try with_reducible rfl)
      case' rest9 => try simp only [Act.put, List.setIfInBounds_toArray, List.set_cons_zero, List.set_cons_succ]
      refine' dq_pure (by rfl) (by rfl) ?hv10 ?rest10
      case hv10 => (intro w hw; (try dsimp only at hw); go_split_ands; go_simp; try with_reducible rfl)
      case' rest10 => try simp only [Act.put, List.setIfInBounds_toArray, List.set_cons_zero, List.set_cons_succ]
      refine' dq_call (by rfl) (by rfl) ?hv11 ?hc11 ?rest11
      case hv11 => (intro w; go_simp; exact ⟨rfl, rfl⟩)
      case hc11 => exact (fun w hw => calls_gt (wsub_any a b c d a' b' c' d' ha hb hc hd ha' hb' hc' hd' _))
      case' rest11 => try simp only [Act.put, List.setIfInBounds_toArray, List.set_cons_zero, List.set_cons_succ]
      refine' dq_call (by rfl) (by rfl) ?hv12 ?hc12 ?rest12
      case hv12 => (intro w; go_simp; exact ⟨rfl, rfl⟩)
      case hc12 => exact (fun w hw => calls_gt (signed_any _ _ _ _ _ _))
      case' rest12 => try simp only [Act.put, List.setIfInBounds_toArray, List.set_cons_zero, List.set_cons_succ]
      refine dq_nil ?_
      simp only [fa, List.drop_succ_cons, List.drop_zero]
      rintro W ⟨⟨hb0, hn0, ⟨B1, B1c, B1f, B1l⟩, ⟨B2, B2c, B2f, B2l⟩, ⟨B3, B3c, B3f, B3l⟩⟩, hgl⟩ hbs
      clear hbs hgl
      (repeat' (first | go_values | go_skip | go_guarded | go_step | go_upon | (simp only [Int.not_lt, Int.not_le] at *; go_simp) | (go_values <;> (try go_simp)) | (go_ite <;> go_prune <;> (try go_simp)) | (split <;> (first | (rename_i hx; exact (hx _ rfl).elim) | go_prune))))
      refine bodyPost_ret (v := .tuple #[_, .bool true]) ?_ rfl ⟨congrArg Ending.returned ((ret_w E.out.1 E.out.2).trans HR.out), by (repeat' (first | (with_reducible assumption) | (with_reducible exact Below.refl _ _) | (with_reducible refine Below.alloc ?_ ?_ _) | (with_reducible refine Below.setCell ?_ ?_ _) | (with_reducible refine Below.drew ?_) | (with_reducible refine below_more ?_ (by with_reducible assumption)) | go_size | omega | (with_reducible refine below_drewN ?_)))⟩
      simp [results, Try.results84, go_sem, B3c, B3f, B3l]
    · have hu : up4 (MV a' b' c' d' - MV a b c d) = 0 := up4_le (by omega) (by omega) u2
      have hz' := hz.trans (sv_sub' hpq _ _)
      have hf : Fits (sv q (MV a' b' c' d' - MV a b c d)) := (fits_sv (by omega)).2 hu
      have E := hid (And.intro ((sv_signed (p := q) (m := MV a' b' c' d' - MV a b c d) (by omega) hu).trans (by rw [hz', cl_fit hf]) : _ = WE (cl z)) (by rw [hz', fb_fit hf] : true = fb z))
      have T : decide (0 ≤ cm4 a b c d a' b' c' d') = false := by rw [C1.out]; exact dF (fun h => hle ((cm_ge _ _).1 h))
      clear hu hf hz hz' m1 m2 u1 u2 C1 hle hpq
      (repeat' (first | (go_big_may; (first | (go_at_call 141; refine (wcompare_any a b c d a' b' c' d' _).mono ?_; rintro e w' ⟨rfl, hbw⟩; have N1 := Bx.of (HB.below (b := w.heap.size) (cs := #[.bool p, .int .u64 a, .int .u64 b, .int .u64 c, .int .u64 d]) (by (repeat' (first | (with_reducible assumption) | ((with_reducible refine HB.new _ _ _ ?_) <;> (go_size; done)) | (with_reducible refine HB.old (by go_size) ?_) | (with_reducible refine HB.drew ?_) | (with_reducible refine HB.over5 ?_) | (with_reducible refine HB.over4 ?_) | (with_reducible refine HB.setne (by first | go_size | (dsimp only; omega)) ?_) | (with_reducible refine HN.set ?_) | (with_reducible refine HN.setne (by first | go_size | (dsimp only; omega)) ?_) | (with_reducible refine HN.drew ?_) | (with_reducible refine HN.old (by go_size) ?_) | (with_reducible exact HN.of5 (by assumption)) | (with_reducible exact HN.new5 _ _ (by go_size)) | (with_reducible exact HN.of4 (by assumption)) | (with_reducible exact HN.new4 _ _ (by go_size))))) hbw); have N2 := Bx.of (HB.below (b := w.heap.size + 1) (cs := #[.bool q, .int .u64 a', .int .u64 b', .int .u64 c', .int .u64 d']) (by (repeat' (first | (with_reducible assumption) | ((with_reducible refine HB.new _ _ _ ?_) <;> (go_size; done)) | (with_reducible refine HB.old (by go_size) ?_) | (with_reducible refine HB.drew ?_) | (with_reducible refine HB.over5 ?_) | (with_reducible refine HB.over4 ?_) | (with_reducible refine HB.setne (by first | go_size | (dsimp only; omega)) ?_) | (with_reducible refine HN.set ?_) | (with_reducible refine HN.setne (by first | go_size | (dsimp only; omega)) ?_) | (with_reducible refine HN.drew ?_) | (with_reducible refine HN.old (by go_size) ?_) | (with_reducible exact HN.of5 (by assumption)) | (with_reducible exact HN.new5 _ _ (by go_size)) | (with_reducible exact HN.of4 (by assumption)) | (with_reducible exact HN.new4 _ _ (by go_size))))) hbw); have N3 := Bx.of (HB.below (b := w.heap.size + 1 + 1) (cs := #[.bool false, .int .u64 0, .int .u64 0, .int .u64 0, .int .u64 0]) (by (repeat' (first | (with_reducible assumption) | ((with_reducible refine HB.new _ _ _ ?_) <;> (go_size; done)) | (with_reducible refine HB.old (by go_size) ?_) | (with_reducible refine HB.drew ?_) | (with_reducible refine HB.over5 ?_) | (with_reducible refine HB.over4 ?_) | (with_reducible refine HB.setne (by first | go_size | (dsimp only; omega)) ?_) | (with_reducible refine HN.set ?_) | (with_reducible refine HN.setne (by first | go_size | (dsimp only; omega)) ?_) | (with_reducible refine HN.drew ?_) | (with_reducible refine HN.old (by go_size) ?_) | (with_reducible exact HN.of5 (by assumption)) | (with_reducible exact HN.new5 _ _ (by go_size)) | (with_reducible exact HN.of4 (by assumption)) | (with_reducible exact HN.new4 _ _ (by go_size))))) hbw); (try clear B1 B1c B1f B1l); (try clear B2 B2c B2f B2l); (try clear B3 B3c B3f B3l); obtain ⟨B1, B1c, B1f, B1l⟩ := N1; obtain ⟨B2, B2c, B2f, B2l⟩ := N2; obtain ⟨B3, B3c, B3f, B3l⟩ := N3; have hsz := hbw.size; (try simp only [World.size_alloc, World.size_setCell, World.size_drew] at hsz)))) | go_values | go_skip | go_guarded | go_step | go_upon | (simp only [Int.not_lt, Int.not_le] at *; go_simp) | (go_values <;> (try go_simp)) | (go_ite <;> go_prune <;> (try go_simp)) | (split <;> (first | (rename_i hx; exact (hx _ rfl).elim) | go_prune))))
      
      (refine wp_region_dq (row := none) (S := (fun Wz => Below w.heap.size w Wz ∧ w.heap.size + 3 ≤ Wz.heap.size ∧ Bx Wz (w.heap.size) (#[.bool p, .int .u64 a, .int .u64 b, .int .u64 c, .int .u64 d]) ∧ Bx Wz (w.heap.size + 1) (#[.bool q, .int .u64 a', .int .u64 b', .int .u64 c', .int .u64 d']) ∧ Bx Wz (w.heap.size + 1 + 1) (#[.bool false, .int .u64 0, .int .u64 0, .int .u64 0, .int .u64 0]))) (n0 := w.heap.size + 3) 8 [] [(0, 0), (1, 0), (2, 0), (3, 0), (4, 0), (5, 0), (6, 0), (7, 0)] [] (by kernel_rfl) (by kernel_rfl) (fun _ _ d _ _ h => by cases d <;> exact h) ⟨by (repeat' (first | (with_reducible assumption) | (with_reducible exact Below.refl _ _) | (with_reducible refine Below.alloc ?_ ?_ _) | (with_reducible refine Below.setCell ?_ ?_ _) | (with_reducible refine Below.drew ?_) | (with_reducible refine below_more ?_ (by with_reducible assumption)) | go_size | omega | (with_reducible refine below_drewN ?_))), (by first | go_size | omega), Bx.of (by (repeat' (first | (with_reducible assumption) | ((with_reducible refine HB.new _ _ _ ?_) <;> (go_size; done)) | (with_reducible refine HB.old (by go_size) ?_) | (with_reducible refine HB.drew ?_) | (with_reducible refine HB.over5 ?_) | (with_reducible refine HB.over4 ?_) | (with_reducible refine HB.setne (by first | go_size | (dsimp only; omega)) ?_) | (with_reducible refine HN.set ?_) | (with_reducible refine HN.setne (by first | go_size | (dsimp only; omega)) ?_) | (with_reducible refine HN.drew ?_) | (with_reducible refine HN.old (by go_size) ?_) | (with_reducible exact HN.of5 (by assumption)) | (with_reducible exact HN.new5 _ _ (by go_size)) | (with_reducible exact HN.of4 (by assumption)) | (with_reducible exact HN.new4 _ _ (by go_size))))), Bx.of (by (repeat' (first | (with_reducible assumption) | ((with_reducible refine HB.new _ _ _ ?_) <;> (go_size; done)) | (with_reducible refine HB.old (by go_size) ?_) | (with_reducible refine HB.drew ?_) | (with_reducible refine HB.over5 ?_) | (with_reducible refine HB.over4 ?_) | (with_reducible refine HB.setne (by first | go_size | (dsimp only; omega)) ?_) | (with_reducible refine HN.set ?_) | (with_reducible refine HN.setne (by first | go_size | (dsimp only; omega)) ?_) | (with_reducible refine HN.drew ?_) | (with_reducible refine HN.old (by go_size) ?_) | (with_reducible exact HN.of5 (by assumption)) | (with_reducible exact HN.new5 _ _ (by go_size)) | (with_reducible exact HN.of4 (by assumption)) | (with_reducible exact HN.new4 _ _ (by go_size))))), Bx.of (by (repeat' (first | (with_reducible assumption) | ((with_reducible refine HB.new _ _ _ ?_) <;> (go_size; done)) | (with_reducible refine HB.old (by go_size) ?_) | (with_reducible refine HB.drew ?_) | (with_reducible refine HB.over5 ?_) | (with_reducible refine HB.over4 ?_) | (with_reducible refine HB.setne (by first | go_size | (dsimp only; omega)) ?_) | (with_reducible refine HN.set ?_) | (with_reducible refine HN.setne (by first | go_size | (dsimp only; omega)) ?_) | (with_reducible refine HN.drew ?_) | (with_reducible refine HN.old (by go_size) ?_) | (with_reducible exact HN.of5 (by assumption)) | (with_reducible exact HN.new5 _ _ (by go_size)) | (with_reducible exact HN.of4 (by assumption)) | (with_reducible exact HN.new4 _ _ (by go_size)))))⟩ (fun _ _ h g => keep3 h (below_gt g) rfl) (fun _ h => h.2.1) (fun _ h => by cases h) (by simp) ?_)
      refine' dq_pure (by rfl) (by rfl) ?hv13 ?rest13
      case hv13 => (intro w hw; (try dsimp only at hw); go_split_ands; go_simp; try with_reducible rfl)
      case' rest13 => try simp only [Act.put, List.setIfInBounds_toArray, List.set_cons_zero, List.set_cons_succ]
      refine' dq_pure (by rfl) (by rfl) ?hv14 ?rest14
      case hv14 => (intro w hw; (try dsimp only at hw); go_split_ands; go_simp; try with_reducible rfl)
      case' rest14 => try simp only [Act.put, List.setIfInBounds_toArray, List.set_cons_zero, List.set_cons_succ]
      refine' dq_pure (by rfl) (by rfl) ?hv15 ?rest15
      case hv15 => (intro w hw; (try dsimp only at hw); go_split_ands; go_simp; try with_reducible rfl)
      case' rest15 => try simp only [Act.put, List.setIfInBounds_toArray, List.set_cons_zero, List.set_cons_succ]
      refine' dq_pure (by rfl) (by rfl) ?hv16 ?rest16
      case hv16 => (intro w hw; (try dsimp only at hw); go_split_ands; go_simp; try with_reducible rfl)
      case' rest16 => try simp only [Act.put, List.setIfInBounds_toArray, List.set_cons_zero, List.set_cons_succ]
      refine' dq_pure (by rfl) (by rfl) ?hv17 ?rest17
      case hv17 => (intro w hw; (try dsimp only at hw); go_split_ands; go_simp; try with_reducible rfl)
      case' rest17 => try simp only [Act.put, List.setIfInBounds_toArray, List.set_cons_zero, List.set_cons_succ]
      refine' dq_pure (by rfl) (by rfl) ?hv18 ?rest18
      case hv18 => (intro w hw; (try dsimp only at hw); go_split_ands; go_simp; try with_reducible rfl)
      case' rest18 => try simp only [Act.put, List.setIfInBounds_toArray, List.set_cons_zero, List.set_cons_succ]
      refine' dq_call (by rfl) (by rfl) ?hv19 ?hc19 ?rest19
      case hv19 => (intro w; go_simp; exact ⟨rfl, rfl⟩)
      case hc19 => exact (fun w hw => calls_gt (wsub_any a' b' c' d' a b c d ha' hb' hc' hd' ha hb hc hd _))
      case' rest19 => try simp only [Act.put, List.setIfInBounds_toArray, List.set_cons_zero, List.set_cons_succ]
      refine' dq_call (by rfl) (by rfl) ?hv20 ?hc20 ?rest20
      case hv20 => (intro w; go_simp; exact ⟨rfl, rfl⟩)
      case hc20 => exact (fun w hw => calls_gt (signed_any _ _ _ _ _ _))
      case' rest20 => try simp only [Act.put, List.setIfInBounds_toArray, List.set_cons_zero, List.set_cons_succ]
      refine dq_nil ?_
      simp only [fa, List.drop_succ_cons, List.drop_zero]
      rintro W ⟨⟨hb0, hn0, ⟨B1, B1c, B1f, B1l⟩, ⟨B2, B2c, B2f, B2l⟩, ⟨B3, B3c, B3f, B3l⟩⟩, hgl⟩ hbs
      clear hbs hgl
      (repeat' (first | go_values | go_skip | go_guarded | go_step | go_upon | (simp only [Int.not_lt, Int.not_le] at *; go_simp) | (go_values <;> (try go_simp)) | (go_ite <;> go_prune <;> (try go_simp)) | (split <;> (first | (rename_i hx; exact (hx _ rfl).elim) | go_prune))))
      refine bodyPost_ret (v := .tuple #[_, .bool true]) ?_ rfl ⟨congrArg Ending.returned ((ret_w E.out.1 E.out.2).trans HR.out), by (repeat' (first | (with_reducible assumption) | (with_reducible exact Below.refl _ _) | (with_reducible refine Below.alloc ?_ ?_ _) | (with_reducible refine Below.setCell ?_ ?_ _) | (with_reducible refine Below.drew ?_) | (with_reducible refine below_more ?_ (by with_reducible assumption)) | go_size | omega | (with_reducible refine below_drewN ?_)))⟩
      simp [results, Try.results84, go_sem, B3c, B3f, B3l]
set_option maxHeartbeats 3000000 in
theorem mul_any (n : Bool) (a b c d : Int) (n' : Bool) (a' b' c' d' : Int) (ha : U64 a) (hb : U64 b) (hc : U64 c) (hd : U64 d) (ha' : U64 a') (hb' : U64 b') (hc' : U64 c') (hd' : U64 d') (w : World) :
    Calls Try.prog 119 #[WV n a b c d, WV n' a' b' c' d'] w fun e w' => e = .returned (.tuple #[WE (cl (wv n a b c d * wv n' a' b' c' d')), .bool (fb (wv n a b c d * wv n' a' b' c' d'))]) ∧ Below w.heap.size w w' := by
  obtain ⟨z, hz⟩ : ∃ z, z = wv n a b c d * wv n' a' b' c' d' := ⟨_, rfl⟩
  rw [← hz]
  generalize hR : Value.tuple #[WE (cl z), .bool (fb z)] = R
  have HR := hid hR
  clear hR
  rw [wv_sv n a b c d, wv_sv n' a' b' c' d', sv_mul] at hz
  have m3 := Int.mul_nonneg (mv_nonneg ha hb hc hd) (mv_nonneg ha' hb' hc' hd')
  go_enter Try.func119, Try.ntmps119
  go_wp2_with fail
  (refine wp_region_dq (row := none) (S := (fun Wz => Below w.heap.size w Wz ∧ w.heap.size + 3 ≤ Wz.heap.size ∧ Bx Wz (w.heap.size) (#[.bool n, .int .u64 a, .int .u64 b, .int .u64 c, .int .u64 d]) ∧ Bx Wz (w.heap.size + 1) (#[.bool n', .int .u64 a', .int .u64 b', .int .u64 c', .int .u64 d']) ∧ Bx Wz (w.heap.size + 1 + 1) (#[.bool false, .int .u64 0, .int .u64 0, .int .u64 0, .int .u64 0]))) (n0 := w.heap.size + 3) 4 [] [(0, 0), (1, 0), (2, 0), (3, 0)] [] (by kernel_rfl) (by kernel_rfl) (fun _ _ d _ _ h => by cases d <;> exact h) ⟨by (repeat' (first | (with_reducible assumption) | (with_reducible exact Below.refl _ _) | (with_reducible refine Below.alloc ?_ ?_ _) | (with_reducible refine Below.setCell ?_ ?_ _) | (with_reducible refine Below.drew ?_) | (with_reducible refine below_more ?_ (by with_reducible assumption)) | go_size | omega | (with_reducible refine below_drewN ?_))), (by first | go_size | omega), Bx.of (by (repeat' (first | (with_reducible assumption) | ((with_reducible refine HB.new _ _ _ ?_) <;> (go_size; done)) | (with_reducible refine HB.old (by go_size) ?_) | (with_reducible refine HB.drew ?_) | (with_reducible refine HB.over5 ?_) | (with_reducible refine HB.over4 ?_) | (with_reducible refine HB.setne (by first | go_size | (dsimp only; omega)) ?_) | (with_reducible refine HN.set ?_) | (with_reducible refine HN.setne (by first | go_size | (dsimp only; omega)) ?_) | (with_reducible refine HN.drew ?_) | (with_reducible refine HN.old (by go_size) ?_) | (with_reducible exact HN.of5 (by assumption)) | (with_reducible exact HN.new5 _ _ (by go_size)) | (with_reducible exact HN.of4 (by assumption)) | (with_reducible exact HN.new4 _ _ (by go_size))))), Bx.of (by (repeat' (first | (with_reducible assumption) | ((with_reducible refine HB.new _ _ _ ?_) <;> (go_size; done)) | (with_reducible refine HB.old (by go_size) ?_) | (with_reducible refine HB.drew ?_) | (with_reducible refine HB.over5 ?_) | (with_reducible refine HB.over4 ?_) | (with_reducible refine HB.setne (by first | go_size | (dsimp only; omega)) ?_) | (with_reducible refine HN.set ?_) | (with_reducible refine HN.setne (by first | go_size | (dsimp only; omega)) ?_) | (with_reducible refine HN.drew ?_) | (with_reducible refine HN.old (by go_size) ?_) | (with_reducible exact HN.of5 (by assumption)) | (with_reducible exact HN.new5 _ _ (by go_size)) | (with_reducible exact HN.of4 (by assumption)) | (with_reducible exact HN.new4 _ _ (by go_size))))), Bx.of (by (repeat' (first | (with_reducible assumption) | ((with_reducible refine HB.new _ _ _ ?_) <;> (go_size; done)) | (with_reducible refine HB.old (by go_size) ?_) | (with_reducible refine HB.drew ?_) | (with_reducible refine HB.over5 ?_) | (with_reducible refine HB.over4 ?_) | (with_reducible refine HB.setne (by first | go_size | (dsimp only; omega)) ?_) | (with_reducible refine HN.set ?_) | (with_reducible refine HN.setne (by first | go_size | (dsimp only; omega)) ?_) | (with_reducible refine HN.drew ?_) | (with_reducible refine HN.old (by go_size) ?_) | (with_reducible exact HN.of5 (by assumption)) | (with_reducible exact HN.new5 _ _ (by go_size)) | (with_reducible exact HN.of4 (by assumption)) | (with_reducible exact HN.new4 _ _ (by go_size)))))⟩ (fun _ _ h g => keep3 h (below_gt g) rfl) (fun _ h => h.2.1) (fun _ h => by cases h) (by simp) ?_)
  refine' dq_pure (by rfl) (by rfl) ?hv21 ?rest21
  case hv21 => (intro w hw; (try dsimp only at hw); go_split_ands; go_simp; try with_reducible rfl)
  case' rest21 => try simp only [Act.put, List.setIfInBounds_toArray, List.set_cons_zero, List.set_cons_succ]
  refine' dq_call (by rfl) (by rfl) ?hv22 ?hc22 ?rest22
  case hv22 => (intro w; go_simp; exact ⟨rfl, rfl⟩)
  case hc22 => exact (fun w hw => calls_gt (clean_any _ _ _ _ _ _))
  case' rest22 => try simp only [Act.put, List.setIfInBounds_toArray, List.set_cons_zero, List.set_cons_succ]
  refine' dq_pure (by rfl) (by rfl) ?hv23 ?rest23
  case hv23 => (intro w hw; (try dsimp only at hw); go_split_ands; go_simp; try with_reducible rfl)
  case' rest23 => try simp only [Act.put, List.setIfInBounds_toArray, List.set_cons_zero, List.set_cons_succ]
  refine' dq_call (by rfl) (by rfl) ?hv24 ?hc24 ?rest24
  case hv24 => (intro w; go_simp; exact ⟨rfl, rfl⟩)
  case hc24 => exact (fun w hw => calls_gt (clean_any _ _ _ _ _ _))
  case' rest24 => try simp only [Act.put, List.setIfInBounds_toArray, List.set_cons_zero, List.set_cons_succ]
  refine dq_nil ?_
  simp only [fa, List.drop_succ_cons, List.drop_zero]
  rintro W ⟨⟨hb0, hn0, ⟨B1, B1c, B1f, B1l⟩, ⟨B2, B2c, B2f, B2l⟩, ⟨B3, B3c, B3f, B3l⟩⟩, hgl⟩ hbs
  clear hbs hgl
  generalize cn n a b c d = p at *
  generalize cn n' a' b' c' d' = q at *
  by_cases hu : up4 (MV a b c d * MV a' b' c' d') = 0
  · have hf : Fits (sv (p != q) (MV a b c d * MV a' b' c' d')) := (fits_sv m3).2 hu
    have E := hid (And.intro ((sv_signed (p := p != q) m3 hu).trans (by rw [hz, cl_fit hf]) : _ = WE (cl z)) (by rw [hz, fb_fit hf] : true = fb z))
    have T : (up4 (MV a b c d * MV a' b' c' d') == 0) = true := by rw [hu]; rfl
    have C := fun W => wmul_any a b c d a' b' c' d' ha hb hc hd ha' hb' hc' hd' W
    simp only [T] at C
    clear hu hf hz m3 T
    (repeat' (first | (go_big_may; (first | (go_at_call 161; refine (C _).mono ?_; rintro e w' ⟨rfl, hbw⟩; have N1 := Bx.of (HB.below (b := w.heap.size) (cs := #[.bool p, .int .u64 a, .int .u64 b, .int .u64 c, .int .u64 d]) (by (repeat' (first | (with_reducible assumption) | ((with_reducible refine HB.new _ _ _ ?_) <;> (go_size; done)) | (with_reducible refine HB.old (by go_size) ?_) | (with_reducible refine HB.drew ?_) | (with_reducible refine HB.over5 ?_) | (with_reducible refine HB.over4 ?_) | (with_reducible refine HB.setne (by first | go_size | (dsimp only; omega)) ?_) | (with_reducible refine HN.set ?_) | (with_reducible refine HN.setne (by first | go_size | (dsimp only; omega)) ?_) | (with_reducible refine HN.drew ?_) | (with_reducible refine HN.old (by go_size) ?_) | (with_reducible exact HN.of5 (by assumption)) | (with_reducible exact HN.new5 _ _ (by go_size)) | (with_reducible exact HN.of4 (by assumption)) | (with_reducible exact HN.new4 _ _ (by go_size))))) hbw); have N2 := Bx.of (HB.below (b := w.heap.size + 1) (cs := #[.bool q, .int .u64 a', .int .u64 b', .int .u64 c', .int .u64 d']) (by (repeat' (first | (with_reducible assumption) | ((with_reducible refine HB.new _ _ _ ?_) <;> (go_size; done)) | (with_reducible refine HB.old (by go_size) ?_) | (with_reducible refine HB.drew ?_) | (with_reducible refine HB.over5 ?_) | (with_reducible refine HB.over4 ?_) | (with_reducible refine HB.setne (by first | go_size | (dsimp only; omega)) ?_) | (with_reducible refine HN.set ?_) | (with_reducible refine HN.setne (by first | go_size | (dsimp only; omega)) ?_) | (with_reducible refine HN.drew ?_) | (with_reducible refine HN.old (by go_size) ?_) | (with_reducible exact HN.of5 (by assumption)) | (with_reducible exact HN.new5 _ _ (by go_size)) | (with_reducible exact HN.of4 (by assumption)) | (with_reducible exact HN.new4 _ _ (by go_size))))) hbw); have N3 := Bx.of (HB.below (b := w.heap.size + 1 + 1) (cs := #[.bool false, .int .u64 0, .int .u64 0, .int .u64 0, .int .u64 0]) (by (repeat' (first | (with_reducible assumption) | ((with_reducible refine HB.new _ _ _ ?_) <;> (go_size; done)) | (with_reducible refine HB.old (by go_size) ?_) | (with_reducible refine HB.drew ?_) | (with_reducible refine HB.over5 ?_) | (with_reducible refine HB.over4 ?_) | (with_reducible refine HB.setne (by first | go_size | (dsimp only; omega)) ?_) | (with_reducible refine HN.set ?_) | (with_reducible refine HN.setne (by first | go_size | (dsimp only; omega)) ?_) | (with_reducible refine HN.drew ?_) | (with_reducible refine HN.old (by go_size) ?_) | (with_reducible exact HN.of5 (by assumption)) | (with_reducible exact HN.new5 _ _ (by go_size)) | (with_reducible exact HN.of4 (by assumption)) | (with_reducible exact HN.new4 _ _ (by go_size))))) hbw); (try clear B1 B1c B1f B1l); (try clear B2 B2c B2f B2l); (try clear B3 B3c B3f B3l); obtain ⟨B1, B1c, B1f, B1l⟩ := N1; obtain ⟨B2, B2c, B2f, B2l⟩ := N2; obtain ⟨B3, B3c, B3f, B3l⟩ := N3; have hsz := hbw.size; (try simp only [World.size_alloc, World.size_setCell, World.size_drew] at hsz)) | (go_at_call 140; refine (signed_any _ _ _ _ _ _).mono ?_; rintro e w' ⟨rfl, hbw⟩; have N1 := Bx.of (HB.below (b := w.heap.size) (cs := #[.bool p, .int .u64 a, .int .u64 b, .int .u64 c, .int .u64 d]) (by (repeat' (first | (with_reducible assumption) | ((with_reducible refine HB.new _ _ _ ?_) <;> (go_size; done)) | (with_reducible refine HB.old (by go_size) ?_) | (with_reducible refine HB.drew ?_) | (with_reducible refine HB.over5 ?_) | (with_reducible refine HB.over4 ?_) | (with_reducible refine HB.setne (by first | go_size | (dsimp only; omega)) ?_) | (with_reducible refine HN.set ?_) | (with_reducible refine HN.setne (by first | go_size | (dsimp only; omega)) ?_) | (with_reducible refine HN.drew ?_) | (with_reducible refine HN.old (by go_size) ?_) | (with_reducible exact HN.of5 (by assumption)) | (with_reducible exact HN.new5 _ _ (by go_size)) | (with_reducible exact HN.of4 (by assumption)) | (with_reducible exact HN.new4 _ _ (by go_size))))) hbw); have N2 := Bx.of (HB.below (b := w.heap.size + 1) (cs := #[.bool q, .int .u64 a', .int .u64 b', .int .u64 c', .int .u64 d']) (by (repeat' (first | (with_reducible assumption) | ((with_reducible refine HB.new _ _ _ ?_) <;> (go_size; done)) | (with_reducible refine HB.old (by go_size) ?_) | (with_reducible refine HB.drew ?_) | (with_reducible refine HB.over5 ?_) | (with_reducible refine HB.over4 ?_) | (with_reducible refine HB.setne (by first | go_size | (dsimp only; omega)) ?_) | (with_reducible refine HN.set ?_) | (with_reducible refine HN.setne (by first | go_size | (dsimp only; omega)) ?_) | (with_reducible refine HN.drew ?_) | (with_reducible refine HN.old (by go_size) ?_) | (with_reducible exact HN.of5 (by assumption)) | (with_reducible exact HN.new5 _ _ (by go_size)) | (with_reducible exact HN.of4 (by assumption)) | (with_reducible exact HN.new4 _ _ (by go_size))))) hbw); have N3 := Bx.of (HB.below (b := w.heap.size + 1 + 1) (cs := #[.bool false, .int .u64 0, .int .u64 0, .int .u64 0, .int .u64 0]) (by (repeat' (first | (with_reducible assumption) | ((with_reducible refine HB.new _ _ _ ?_) <;> (go_size; done)) | (with_reducible refine HB.old (by go_size) ?_) | (with_reducible refine HB.drew ?_) | (with_reducible refine HB.over5 ?_) | (with_reducible refine HB.over4 ?_) | (with_reducible refine HB.setne (by first | go_size | (dsimp only; omega)) ?_) | (with_reducible refine HN.set ?_) | (with_reducible refine HN.setne (by first | go_size | (dsimp only; omega)) ?_) | (with_reducible refine HN.drew ?_) | (with_reducible refine HN.old (by go_size) ?_) | (with_reducible exact HN.of5 (by assumption)) | (with_reducible exact HN.new5 _ _ (by go_size)) | (with_reducible exact HN.of4 (by assumption)) | (with_reducible exact HN.new4 _ _ (by go_size))))) hbw); (try clear B1 B1c B1f B1l); (try clear B2 B2c B2f B2l); (try clear B3 B3c B3f B3l); obtain ⟨B1, B1c, B1f, B1l⟩ := N1; obtain ⟨B2, B2c, B2f, B2l⟩ := N2; obtain ⟨B3, B3c, B3f, B3l⟩ := N3; have hsz := hbw.size; (try simp only [World.size_alloc, World.size_setCell, World.size_drew] at hsz)))) | go_values | go_skip | go_guarded | go_step | go_upon | (simp only [Int.not_lt, Int.not_le] at *; go_simp) | (go_values <;> (try go_simp)) | (go_ite <;> go_prune <;> (try go_simp)) | (split <;> (first | (rename_i hx; exact (hx _ rfl).elim) | go_prune))))
    refine bodyPost_ret (v := .tuple #[_, .bool true]) ?_ rfl ⟨congrArg Ending.returned ((ret_w E.out.1 E.out.2).trans HR.out), by (repeat' (first | (with_reducible assumption) | (with_reducible exact Below.refl _ _) | (with_reducible refine Below.alloc ?_ ?_ _) | (with_reducible refine Below.setCell ?_ ?_ _) | (with_reducible refine Below.drew ?_) | (with_reducible refine below_more ?_ (by with_reducible assumption)) | go_size | omega | (with_reducible refine below_drewN ?_)))⟩
    simp [results, Try.results119, go_sem, B3c, B3f, B3l, bne]
  · have hf : ¬Fits (sv (p != q) (MV a b c d * MV a' b' c' d')) := fun h => hu ((fits_sv m3).1 h)
    have E := hid (And.intro (we_zero.symm.trans (by rw [hz, cl_not hf]) : WV false 0 0 0 0 = WE (cl z)) (by rw [hz, fb_not hf] : false = fb z))
    have T : (up4 (MV a b c d * MV a' b' c' d') == 0) = false := beq_eq_false_iff_ne.2 hu
    have C := fun W => wmul_any a b c d a' b' c' d' ha hb hc hd ha' hb' hc' hd' W
    simp only [T] at C
    clear hu hf hz m3 T
    (repeat' (first | (go_big_may; (first | (go_at_call 161; refine (C _).mono ?_; rintro e w' ⟨rfl, hbw⟩; have N1 := Bx.of (HB.below (b := w.heap.size) (cs := #[.bool p, .int .u64 a, .int .u64 b, .int .u64 c, .int .u64 d]) (by (repeat' (first | (with_reducible assumption) | ((with_reducible refine HB.new _ _ _ ?_) <;> (go_size; done)) | (with_reducible refine HB.old (by go_size) ?_) | (with_reducible refine HB.drew ?_) | (with_reducible refine HB.over5 ?_) | (with_reducible refine HB.over4 ?_) | (with_reducible refine HB.setne (by first | go_size | (dsimp only; omega)) ?_) | (with_reducible refine HN.set ?_) | (with_reducible refine HN.setne (by first | go_size | (dsimp only; omega)) ?_) | (with_reducible refine HN.drew ?_) | (with_reducible refine HN.old (by go_size) ?_) | (with_reducible exact HN.of5 (by assumption)) | (with_reducible exact HN.new5 _ _ (by go_size)) | (with_reducible exact HN.of4 (by assumption)) | (with_reducible exact HN.new4 _ _ (by go_size))))) hbw); have N2 := Bx.of (HB.below (b := w.heap.size + 1) (cs := #[.bool q, .int .u64 a', .int .u64 b', .int .u64 c', .int .u64 d']) (by (repeat' (first | (with_reducible assumption) | ((with_reducible refine HB.new _ _ _ ?_) <;> (go_size; done)) | (with_reducible refine HB.old (by go_size) ?_) | (with_reducible refine HB.drew ?_) | (with_reducible refine HB.over5 ?_) | (with_reducible refine HB.over4 ?_) | (with_reducible refine HB.setne (by first | go_size | (dsimp only; omega)) ?_) | (with_reducible refine HN.set ?_) | (with_reducible refine HN.setne (by first | go_size | (dsimp only; omega)) ?_) | (with_reducible refine HN.drew ?_) | (with_reducible refine HN.old (by go_size) ?_) | (with_reducible exact HN.of5 (by assumption)) | (with_reducible exact HN.new5 _ _ (by go_size)) | (with_reducible exact HN.of4 (by assumption)) | (with_reducible exact HN.new4 _ _ (by go_size))))) hbw); have N3 := Bx.of (HB.below (b := w.heap.size + 1 + 1) (cs := #[.bool false, .int .u64 0, .int .u64 0, .int .u64 0, .int .u64 0]) (by (repeat' (first | (with_reducible assumption) | ((with_reducible refine HB.new _ _ _ ?_) <;> (go_size; done)) | (with_reducible refine HB.old (by go_size) ?_) | (with_reducible refine HB.drew ?_) | (with_reducible refine HB.over5 ?_) | (with_reducible refine HB.over4 ?_) | (with_reducible refine HB.setne (by first | go_size | (dsimp only; omega)) ?_) | (with_reducible refine HN.set ?_) | (with_reducible refine HN.setne (by first | go_size | (dsimp only; omega)) ?_) | (with_reducible refine HN.drew ?_) | (with_reducible refine HN.old (by go_size) ?_) | (with_reducible exact HN.of5 (by assumption)) | (with_reducible exact HN.new5 _ _ (by go_size)) | (with_reducible exact HN.of4 (by assumption)) | (with_reducible exact HN.new4 _ _ (by go_size))))) hbw); (try clear B1 B1c B1f B1l); (try clear B2 B2c B2f B2l); (try clear B3 B3c B3f B3l); obtain ⟨B1, B1c, B1f, B1l⟩ := N1; obtain ⟨B2, B2c, B2f, B2l⟩ := N2; obtain ⟨B3, B3c, B3f, B3l⟩ := N3; have hsz := hbw.size; (try simp only [World.size_alloc, World.size_setCell, World.size_drew] at hsz)))) | go_values | go_skip | go_guarded | go_step | go_upon | (simp only [Int.not_lt, Int.not_le] at *; go_simp) | (go_values <;> (try go_simp)) | (go_ite <;> go_prune <;> (try go_simp)) | (split <;> (first | (rename_i hx; exact (hx _ rfl).elim) | go_prune))))
    refine bodyPost_ret (v := .tuple #[WV false 0 0 0 0, .bool false]) ?_ rfl ⟨congrArg Ending.returned ((ret_w E.out.1 E.out.2).trans HR.out), by (repeat' (first | (with_reducible assumption) | (with_reducible exact Below.refl _ _) | (with_reducible refine Below.alloc ?_ ?_ _) | (with_reducible refine Below.setCell ?_ ?_ _) | (with_reducible refine Below.drew ?_) | (with_reducible refine below_more ?_ (by with_reducible assumption)) | go_size | omega | (with_reducible refine below_drewN ?_)))⟩
    simp [results, Try.results119, go_sem, B3c, B3f, B3l]
end Go.Proofs.Ytncmmbacoknefaa
