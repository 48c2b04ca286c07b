/- MADE BY PROGRAM (sxgen.py): the small code of some functions, points of it and their equations. -/
import Derived.Test.YtlanoclibdhpmaaProg
import Derived.Test.YtlanoclibdhpmaaMs2
namespace Go.Proofs.Ytlanoclibdhpmaa
open Go Go.RowKit Sx
set_option linter.unusedVariables false
variable (C : Cx) (R L1 L2 L3 L4 : St → Prop)

/-! ### tscodec/tscodeclaw03.RatioMakes -/
namespace w03_RatioMakes
def r0 : List G := [(some 3, none, (.box true 5 (.tmp 0))), (some 4, none, (.box true 5 (.tmp 1))), (some 6, none, (.mv (.const (.bool false))))]
def r1 : List G := [(some 15, none, (.mv (.tmp 2))), (some 16, none, (.call false 14 [(.tmp 15)])), (some 7, none, (.mv (.tmp 16)))]
def r2 : List G := [(some 17, none, (.ld true 5 (.tmp 3))), (some 18, none, (.ld true 5 (.tmp 4))), (some 19, none, (.mv (.tmp 7))), (some 21, none, (.mv (.tmp 7))), (some 23, none, (.mv (.tmp 7))), (some 26, none, (.mv (.tmp 7))), (some 20, none, (.call false 15 [(.tmp 19)])), (some 22, none, (.call false 15 [(.tmp 21)])), (some 24, none, (.call false 17 [(.tmp 23)])), (some 25, none, (.call true 16 [(.tmp 24)])), (some 27, none, (.call false 18 [(.tmp 26), (.const (.int .i64 40))])), (some 28, none, (.bin .sub (.tmp 27) (.const (.int .i64 20)))), (some 29, none, (.call true 16 [(.tmp 28)])), (some 30, none, (.gen false (.bsl 33 6 [0, 1, 2, 3, 4, 5]) [(.tmp 17), (.tmp 18), (.tmp 20), (.tmp 22), (.tmp 25), (.tmp 29)]))]
def t2 : List G := [(some 8, none, (.mv (.tmp 30)))]
def r3 : List G := [(some 9, none, (.mv (.const (.int .i64 0))))]
def r4 : List G := [(some 31, none, (.mv (.tmp 9))), (some 32, none, (.mv (.tmp 8))), (some 33, none, (.len false (.tmp 32))), (some 34, none, (.bin .lss (.tmp 31) (.tmp 33)))]
def r6 : List G := [(some 10, none, (.mv (.const (.int .i64 0))))]
def r7 : List G := [(some 37, none, (.mv (.tmp 10))), (some 38, none, (.mv (.tmp 8))), (some 39, none, (.len false (.tmp 38))), (some 40, none, (.bin .lss (.tmp 37) (.tmp 39)))]
def r9 : List G := [(some 44, none, (.mv (.tmp 8))), (some 45, none, (.mv (.tmp 9))), (some 46, none, (.is 5 (.tmp 44) (.tmp 45))), (some 47, none, (.ld true 5 (.tmp 46))), (some 48, none, (.mv (.tmp 8))), (some 49, none, (.mv (.tmp 10))), (some 50, none, (.is 5 (.tmp 48) (.tmp 49))), (some 51, none, (.ld true 5 (.tmp 50))), (some 52, none, (.call true 19 [(.tmp 47), (.tmp 51)])), (some 43, none, (.mv (.tmp 52))), (some 53, none, (.ex (.tmp 43) 0)), (some 54, none, (.ex (.tmp 43) 1))]
def t9 : List G := [(some 11, none, (.new zR)), (none, none, (.st true 10 (.tmp 11) (.tmp 53))), (some 12, none, (.mv (.tmp 54)))]
def r10 : List G := [(some 56, none, (.mv (.tmp 8))), (some 57, none, (.mv (.tmp 9))), (some 58, none, (.is 5 (.tmp 56) (.tmp 57))), (some 59, none, (.ld true 5 (.tmp 58))), (some 60, none, (.mv (.tmp 8))), (some 61, none, (.mv (.tmp 10))), (some 62, none, (.is 5 (.tmp 60) (.tmp 61))), (some 63, none, (.ld true 5 (.tmp 62))), (some 64, none, (.call true 20 [(.tmp 59), (.tmp 63)])), (some 55, none, (.mv (.tmp 64))), (some 65, none, (.ex (.tmp 55) 0)), (some 66, none, (.ex (.tmp 55) 1))]
def t10 : List G := [(some 13, none, (.new zR)), (none, none, (.st true 10 (.tmp 13) (.tmp 65))), (some 14, none, (.mv (.tmp 66)))]
def r11 : List G := [(some 67, none, (.ld true 10 (.tmp 11))), (some 68, none, (.ld true 10 (.tmp 13))), (some 69, none, (.eqg true 35 (.tmp 67) (.tmp 68))), (some 70, none, (.mv (.tmp 69))), (some 71, some (70, false), (.mv (.tmp 12))), (some 72, some (70, false), (.mv (.tmp 14))), (some 73, some (70, false), (.bq true (.tmp 71) (.tmp 72))), (some 74, none, (.pick (.tmp 70) (.const (.bool true)) (.tmp 73))), (some 75, none, (.mv (.tmp 74))), (some 76, some (75, false), (.mv (.tmp 12))), (some 77, some (75, false), (.mv (.tmp 76))), (some 78, some (77, true), (.ld true 10 (.tmp 11))), (some 79, some (77, true), (.call false 21 [(.tmp 78)])), (some 80, some (77, true), (.un .not (.tmp 79))), (some 81, some (75, false), (.pick (.tmp 77) (.tmp 80) (.const (.bool false)))), (some 82, none, (.pick (.tmp 75) (.const (.bool true)) (.tmp 81)))]
def r12 : List G := [(some 6, none, (.mv (.const (.bool false))))]
def r8 : List G := [(some 41, none, (.mv (.tmp 10))), (some 42, none, (.bin .add (.tmp 41) (.const (.int .i64 1)))), (some 10, none, (.mv (.tmp 42)))]
def r5 : List G := [(some 35, none, (.mv (.tmp 9))), (some 36, none, (.bin .add (.tmp 35) (.const (.int .i64 1)))), (some 9, none, (.mv (.tmp 36)))]
def r13 : List G := [(some 83, none, (.call false 22 [])), (some 6, none, (.mv (.tmp 83)))]
def c : MC := (.seq (.reg r0 (some [2, 3, 4])) (.seq (.reg r1 (some [3, 4, 7])) (.seq (.creg false false r2 t2 (some [8])) (.seq (.seq (.reg r3 (some [8, 9])) (.block 0 (.loop (.seq (.seq (.reg r4 (some [8, 9, 34])) (.cond (.tmp 34) .skip (.exit 0))) (.seq (.block 1 (.seq (.reg r6 (some [8, 9, 10])) (.block 2 (.loop (.seq (.seq (.reg r7 (some [8, 9, 10, 40])) (.cond (.tmp 40) .skip (.exit 2))) (.seq (.block 3 (.seq (.dreg r9 t9 (some [8, 9, 10, 11, 12])) (.seq (.dreg r10 t10 (some [8, 9, 10, 11, 12, 13, 14])) (.seq (.reg r11 (some [8, 9, 10, 82])) (.cond (.tmp 82) (.seq (.reg r12 (some [6])) .ret) .skip))))) (.reg r8 (some [8, 9, 10])))))))) (.reg r5 (some [8, 9]))))))) (.seq (.reg r13 (some [6])) .ret)))))
def ann : Ann := [(0, (some [2, 3, 4], 0, [], [], [])), (1, (some [3, 4, 7], 0, [], [], [])), (2, (some [8], 300014, [], [(0, 0), (1, 0), (2, 0), (4, 0), (6, 0), (9, 0), (3, 1), (5, 1), (7, 1), (8, 0), (10, 1), (11, 0), (12, 0), (13, 1)], [])), (3, (some [8, 9], 0, [], [], [])), (4, (some [8, 9, 34], 0, [], [], [])), (5, (some [8, 9], 0, [], [], [])), (6, (some [8, 9, 10], 0, [], [], [])), (7, (some [8, 9, 10, 40], 0, [], [], [])), (8, (some [8, 9, 10], 0, [], [], [])), (9, (some [8, 9, 10, 11, 12], 13, [11], [(0, 0), (1, 0), (2, 0), (3, 0), (4, 0), (5, 0), (6, 0), (7, 0), (8, 0), (9, 0), (10, 0), (11, 2)], [12])), (10, (some [8, 9, 10, 11, 12, 13, 14], 13, [11], [(0, 0), (1, 0), (2, 0), (3, 0), (4, 0), (5, 0), (6, 0), (7, 0), (8, 0), (9, 0), (10, 0), (11, 2)], [12])), (11, (some [8, 9, 10, 82], 0, [], [], [])), (12, (some [6], 0, [], [], [])), (13, (some [6], 0, [], [], []))]
theorem ok : compF Try.prog Try.f3 ann = some (84, c, [(6, none)]) := by kernel_rfl
def p1 (S : St) : Prop := ops C r13 (kq [6] R) S
def p3 (S : St) : Prop := ops C r5 (kq [8, 9] L1) S
def p5 (S : St) : Prop := ops C r8 (kq [8, 9, 10] L2) S
def p7 (S : St) : Prop := ops C r12 (kq [6] R) S
def p6 (S : St) : Prop := condX (S.ev (.tmp 82)) (p7 C R) (p5 C L2) S
def p8 (S : St) : Prop := ops C r11 (kq [8, 9, 10, 82] (p6 C R L2)) S
def p9 (S : St) : Prop := ops C r10 (ops C t10 (kq [8, 9, 10, 11, 12, 13, 14] (p8 C R L2))) S
def p10 (S : St) : Prop := ops C r9 (ops C t9 (kq [8, 9, 10, 11, 12] (p9 C R L2))) S
def p11 (S : St) : Prop := condX (S.ev (.tmp 40)) (p10 C R L2) (p3 C L1) S
def p12 (S : St) : Prop := ops C r7 (kq [8, 9, 10, 40] (p11 C R L1 L2)) S
def p4 (S : St) : Prop := LX C (fun L2 => (p12 C R L1 L2)) S
theorem p4_l (S : St) : p4 C R L1 S = LX C (fun L2 => (p12 C R L1 L2)) S := rfl
def p13 (S : St) : Prop := ops C r6 (kq [8, 9, 10] (p4 C R L1)) S
def p14 (S : St) : Prop := condX (S.ev (.tmp 34)) (p13 C R L1) (p1 C R) S
def p15 (S : St) : Prop := ops C r4 (kq [8, 9, 34] (p14 C R L1)) S
def p2 (S : St) : Prop := LX C (fun L1 => (p15 C R L1)) S
theorem p2_l (S : St) : p2 C R S = LX C (fun L1 => (p15 C R L1)) S := rfl
def p16 (S : St) : Prop := ops C r3 (kq [8, 9] (p2 C R)) S
def p17 (S : St) : Prop := cregX C false false r2 t2 (kq [8] (p16 C R)) S
def p18 (S : St) : Prop := ops C r1 (kq [3, 4, 7] (p17 C R)) S
def p19 (S : St) : Prop := ops C r0 (kq [2, 3, 4] (p18 C R)) S
theorem s (S : St) : X C c (retK R) S = p19 C R S := by kernel_rfl
theorem E : type_of% @r13.eq_1 ∧ type_of% @p1.eq_1 ∧ type_of% @r5.eq_1 ∧ type_of% @p3.eq_1 ∧ type_of% @r8.eq_1 ∧ type_of% @p5.eq_1 ∧ type_of% @r12.eq_1 ∧ type_of% @p7.eq_1 ∧ type_of% @p6.eq_1 ∧ type_of% @r11.eq_1 ∧ type_of% @p8.eq_1 ∧ type_of% @r10.eq_1 ∧ type_of% @t10.eq_1 ∧ type_of% @p9.eq_1 ∧ type_of% @r9.eq_1 ∧ type_of% @t9.eq_1 ∧ type_of% @p10.eq_1 ∧ type_of% @p11.eq_1 ∧ type_of% @r7.eq_1 ∧ type_of% @p12.eq_1 ∧ type_of% @r6.eq_1 ∧ type_of% @p13.eq_1 ∧ type_of% @p14.eq_1 ∧ type_of% @r4.eq_1 ∧ type_of% @p15.eq_1 ∧ type_of% @r3.eq_1 ∧ type_of% @p16.eq_1 ∧ type_of% @r2.eq_1 ∧ type_of% @t2.eq_1 ∧ type_of% @p17.eq_1 ∧ type_of% @r1.eq_1 ∧ type_of% @p18.eq_1 ∧ type_of% @r0.eq_1 ∧ type_of% @p19.eq_1 ∧ type_of% @s := ⟨@r13.eq_1, @p1.eq_1, @r5.eq_1, @p3.eq_1, @r8.eq_1, @p5.eq_1, @r12.eq_1, @p7.eq_1, @p6.eq_1, @r11.eq_1, @p8.eq_1, @r10.eq_1, @t10.eq_1, @p9.eq_1, @r9.eq_1, @t9.eq_1, @p10.eq_1, @p11.eq_1, @r7.eq_1, @p12.eq_1, @r6.eq_1, @p13.eq_1, @p14.eq_1, @r4.eq_1, @p15.eq_1, @r3.eq_1, @p16.eq_1, @r2.eq_1, @t2.eq_1, @p17.eq_1, @r1.eq_1, @p18.eq_1, @r0.eq_1, @p19.eq_1, @s⟩
end w03_RatioMakes
end Go.Proofs.Ytlanoclibdhpmaa
