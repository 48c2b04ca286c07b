/- MADE BY PROGRAM (sxgen.py): the small code of some functions, points of it and their equations. -/
import Derived.Test.YtlanoclibdhpmaaProg
import Derived.Test.YtlanoclibdhpmaaMu2
namespace Go.Proofs.Ytlanoclibdhpmaa
open Go Go.RowKit Sx
set_option linter.unusedVariables false
variable (C : Cx) (R L1 L2 L3 L4 : St → Prop)

/-! ### tscodec/tscodeclaw04.SimplestLeast -/
namespace w04_SimplestLeast
def r0 : List G := [(some 8, none, (.mv (.const (.bool false))))]
def r1 : List G := [(some 26, none, (.mv (.tmp 0))), (some 27, none, (.bin .rem (.tmp 26) (.const (.int .i64 10000)))), (some 28, none, (.mv (.tmp 2))), (some 29, none, (.cv .i64 (.tmp 28))), (some 30, none, (.bin .add (.tmp 29) (.const (.int .i64 1)))), (some 31, none, (.call false 44 [(.tmp 27), (.tmp 30)])), (some 32, none, (.mv (.tmp 1))), (some 33, none, (.bin .rem (.tmp 32) (.const (.int .i64 10000)))), (some 34, none, (.mv (.tmp 3))), (some 35, none, (.cv .i64 (.tmp 34))), (some 36, none, (.bin .add (.tmp 35) (.const (.int .i64 1)))), (some 37, none, (.call false 44 [(.tmp 33), (.tmp 36)])), (some 9, none, (.new zR)), (some 10, none, (.new zR)), (none, none, (.st true 10 (.tmp 9) (.tmp 31))), (none, none, (.st true 10 (.tmp 10) (.tmp 37)))]
def r2 : List G := [(some 38, none, (.ld true 10 (.tmp 9))), (some 39, none, (.ld true 10 (.tmp 10))), (some 40, none, (.call false 28 [(.tmp 38), (.tmp 39)])), (some 41, none, (.bin .gtr (.tmp 40) (.const (.int .i64 0))))]
def r3 : List G := [(some 42, none, (.ld true 10 (.tmp 10))), (some 43, none, (.ld true 10 (.tmp 9))), (none, none, (.st true 10 (.tmp 9) (.tmp 42))), (none, none, (.st true 10 (.tmp 10) (.tmp 43)))]
def r4 : List G := [(some 45, none, (.ld true 10 (.tmp 9))), (some 46, none, (.ld true 10 (.tmp 10))), (some 47, none, (.call false 41 [(.tmp 45), (.tmp 46)])), (some 44, none, (.mv (.tmp 47))), (some 48, none, (.ex (.tmp 44) 0)), (some 49, none, (.ex (.tmp 44) 1)), (some 11, none, (.new zR)), (none, none, (.st true 10 (.tmp 11) (.tmp 48))), (some 12, none, (.mv (.tmp 49)))]
def r5 : List G := [(some 51, none, (.fa 5 (.tmp 11))), (some 52, none, (.ld true 5 (.tmp 51))), (some 53, none, (.call false 45 [(.tmp 52)])), (some 50, none, (.mv (.tmp 53))), (some 54, none, (.ex (.tmp 50) 0)), (some 55, none, (.ex (.tmp 50) 1)), (some 13, none, (.mv (.tmp 54))), (some 14, none, (.mv (.tmp 55)))]
def r6 : List G := [(some 57, none, (.fa 0 (.tmp 11))), (some 58, none, (.ld true 5 (.tmp 57))), (some 59, none, (.call false 45 [(.tmp 58)])), (some 56, none, (.mv (.tmp 59))), (some 60, none, (.ex (.tmp 56) 0)), (some 61, none, (.ex (.tmp 56) 1)), (some 15, none, (.mv (.tmp 60))), (some 16, none, (.mv (.tmp 61)))]
def r7 : List G := [(some 62, none, (.mv (.tmp 12))), (some 63, none, (.un .not (.tmp 62))), (some 64, none, (.mv (.tmp 63))), (some 65, some (64, false), (.mv (.tmp 14))), (some 66, some (64, false), (.un .not (.tmp 65))), (some 67, none, (.pick (.tmp 64) (.const (.bool true)) (.tmp 66))), (some 68, none, (.mv (.tmp 67))), (some 69, some (68, false), (.mv (.tmp 16))), (some 70, some (68, false), (.un .not (.tmp 69))), (some 71, none, (.pick (.tmp 68) (.const (.bool true)) (.tmp 70))), (some 72, none, (.mv (.tmp 71))), (some 73, some (72, false), (.mv (.tmp 13))), (some 74, some (72, false), (.bin .lss (.tmp 73) (.const (.int .i64 1)))), (some 75, none, (.pick (.tmp 72) (.const (.bool true)) (.tmp 74))), (some 76, none, (.mv (.tmp 75))), (some 77, some (76, false), (.mv (.tmp 13))), (some 78, some (76, false), (.bin .gtr (.tmp 77) (.const (.int .i64 256)))), (some 79, none, (.pick (.tmp 76) (.const (.bool true)) (.tmp 78)))]
def r8 : List G := [(some 8, none, (.mv (.const (.bool false))))]
def r9 : List G := [(some 17, none, (.mv (.const (.int .i64 1))))]
def r10 : List G := [(some 80, none, (.mv (.tmp 17))), (some 81, none, (.mv (.tmp 13))), (some 82, none, (.bin .leq (.tmp 80) (.tmp 81)))]
def r12 : List G := [(some 86, none, (.fa 0 (.tmp 9))), (some 87, none, (.ld true 5 (.tmp 86))), (some 88, none, (.mv (.tmp 17))), (some 89, none, (.call true 16 [(.tmp 88)])), (some 90, none, (.call true 29 [(.tmp 87), (.tmp 89)])), (some 85, none, (.mv (.tmp 90))), (some 91, none, (.ex (.tmp 85) 0)), (some 92, none, (.ex (.tmp 85) 1))]
def t12 : List G := [(some 18, none, (.new zW)), (none, none, (.st true 5 (.tmp 18) (.tmp 91))), (some 19, none, (.mv (.tmp 92)))]
def r13 : List G := [(some 94, none, (.ld true 5 (.tmp 18))), (some 95, none, (.fa 5 (.tmp 9))), (some 96, none, (.ld true 5 (.tmp 95))), (some 97, none, (.call false 46 [(.tmp 94), (.tmp 96)])), (some 93, none, (.mv (.tmp 97))), (some 98, none, (.ex (.tmp 93) 0)), (some 99, none, (.ex (.tmp 93) 1)), (some 100, none, (.ex (.tmp 93) 2)), (some 20, none, (.new zW)), (some 21, none, (.new zW)), (none, none, (.st true 5 (.tmp 20) (.tmp 98))), (none, none, (.st true 5 (.tmp 21) (.tmp 99))), (some 22, none, (.mv (.tmp 100)))]
def r14 : List G := [(some 102, none, (.ld true 5 (.tmp 20))), (some 103, none, (.call false 45 [(.tmp 102)])), (some 101, none, (.mv (.tmp 103))), (some 104, none, (.ex (.tmp 101) 0)), (some 105, none, (.ex (.tmp 101) 1)), (some 23, none, (.mv (.tmp 104))), (some 24, none, (.mv (.tmp 105)))]
def r15 : List G := [(some 106, none, (.ld true 5 (.tmp 21))), (some 107, none, (.call false 47 [(.tmp 106)])), (some 108, none, (.bin .neq (.tmp 107) (.const (.int .i64 0))))]
def r16 : List G := [(some 109, none, (.mv (.tmp 23))), (some 110, none, (.bin .add (.tmp 109) (.const (.int .i64 1)))), (some 23, none, (.mv (.tmp 110)))]
def r17 : List G := [(some 111, none, (.mv (.tmp 23))), (some 112, none, (.mv (.tmp 17))), (some 113, none, (.call true 44 [(.tmp 111), (.tmp 112)])), (some 114, none, (.ld true 10 (.tmp 10))), (some 115, none, (.call true 28 [(.tmp 113), (.tmp 114)])), (some 116, none, (.bin .leq (.tmp 115) (.const (.int .i64 0))))]
def t17 : List G := [(some 25, none, (.mv (.tmp 116)))]
def r18 : List G := [(some 117, none, (.mv (.tmp 17))), (some 118, none, (.mv (.tmp 13))), (some 119, none, (.bin .lss (.tmp 117) (.tmp 118))), (some 120, none, (.mv (.tmp 119))), (some 121, some (120, true), (.mv (.tmp 25))), (some 122, none, (.pick (.tmp 120) (.tmp 121) (.const (.bool false)))), (some 123, none, (.mv (.tmp 122))), (some 124, some (123, false), (.mv (.tmp 17))), (some 125, some (123, false), (.mv (.tmp 13))), (some 126, some (123, false), (.bin .eql (.tmp 124) (.tmp 125))), (some 127, some (123, false), (.mv (.tmp 126))), (some 128, some (127, true), (.mv (.tmp 25))), (some 129, some (127, true), (.un .not (.tmp 128))), (some 130, some (123, false), (.pick (.tmp 127) (.tmp 129) (.const (.bool false)))), (some 131, none, (.pick (.tmp 123) (.const (.bool true)) (.tmp 130)))]
def r19 : List G := [(some 8, none, (.mv (.const (.bool false))))]
def r20 : List G := [(some 132, none, (.mv (.tmp 17))), (some 133, none, (.mv (.tmp 13))), (some 134, none, (.bin .eql (.tmp 132) (.tmp 133))), (some 135, none, (.mv (.tmp 134))), (some 136, some (135, true), (.mv (.tmp 23))), (some 137, some (135, true), (.bin .gtr (.tmp 136) (.const (.int .i64 0)))), (some 138, none, (.pick (.tmp 135) (.tmp 137) (.const (.bool false)))), (some 139, none, (.mv (.tmp 138))), (some 140, some (139, true), (.mv (.tmp 15))), (some 141, some (139, true), (.mv (.tmp 23))), (some 142, some (139, true), (.bin .neq (.tmp 140) (.tmp 141))), (some 143, none, (.pick (.tmp 139) (.tmp 142) (.const (.bool false))))]
def r21 : List G := [(some 8, none, (.mv (.const (.bool false))))]
def r11 : List G := [(some 83, none, (.mv (.tmp 17))), (some 84, none, (.bin .add (.tmp 83) (.const (.int .i64 1)))), (some 17, none, (.mv (.tmp 84)))]
def r22 : List G := [(some 144, none, (.call false 39 [])), (some 8, none, (.mv (.tmp 144)))]
def c : MC := (.seq (.reg r0 (some [0, 1, 2, 3])) (.seq (.reg r1 (some [9, 10])) (.seq (.seq (.reg r2 (some [9, 10, 41])) (.cond (.tmp 41) (.reg r3 (some [9, 10])) .skip)) (.seq (.reg r4 (some [9, 10, 11, 12])) (.seq (.reg r5 (some [9, 10, 11, 12, 13, 14])) (.seq (.reg r6 (some [9, 10, 12, 13, 14, 15, 16])) (.seq (.seq (.reg r7 (some [9, 10, 13, 15, 79])) (.cond (.tmp 79) (.seq (.reg r8 (some [8])) .ret) .skip)) (.seq (.seq (.reg r9 (some [9, 10, 13, 15, 17])) (.block 0 (.loop (.seq (.seq (.reg r10 (some [9, 10, 13, 15, 17, 82])) (.cond (.tmp 82) .skip (.exit 0))) (.seq (.block 1 (.seq (.dreg r12 t12 (some [9, 10, 13, 15, 17, 18])) (.seq (.reg r13 (some [9, 10, 13, 15, 17, 20, 21])) (.seq (.reg r14 (some [9, 10, 13, 15, 17, 21, 23])) (.seq (.seq (.reg r15 (some [9, 10, 13, 15, 17, 23, 108])) (.cond (.tmp 108) (.reg r16 (some [9, 10, 13, 15, 17, 23])) .skip)) (.seq (.dreg r17 t17 (some [9, 10, 13, 15, 17, 23, 25])) (.seq (.seq (.reg r18 (some [9, 10, 13, 15, 17, 23, 131])) (.cond (.tmp 131) (.seq (.reg r19 (some [8])) .ret) .skip)) (.seq (.reg r20 (some [9, 10, 13, 15, 17, 143])) (.cond (.tmp 143) (.seq (.reg r21 (some [8])) .ret) .skip))))))))) (.reg r11 (some [9, 10, 13, 15, 17]))))))) (.seq (.reg r22 (some [8])) .ret)))))))))
def ann : Ann := [(0, (some [0, 1, 2, 3], 0, [], [], [])), (1, (some [9, 10], 0, [], [], [])), (2, (some [9, 10, 41], 0, [], [], [])), (3, (some [9, 10], 0, [], [], [])), (4, (some [9, 10, 11, 12], 0, [], [], [])), (5, (some [9, 10, 11, 12, 13, 14], 0, [], [], [])), (6, (some [9, 10, 12, 13, 14, 15, 16], 0, [], [], [])), (7, (some [9, 10, 13, 15, 79], 0, [], [], [])), (8, (some [8], 0, [], [], [])), (9, (some [9, 10, 13, 15, 17], 0, [], [], [])), (10, (some [9, 10, 13, 15, 17, 82], 0, [], [], [])), (11, (some [9, 10, 13, 15, 17], 0, [], [], [])), (12, (some [9, 10, 13, 15, 17, 18], 9, [7], [(0, 0), (1, 0), (2, 0), (3, 0), (4, 0), (5, 0), (6, 0), (7, 2)], [8])), (13, (some [9, 10, 13, 15, 17, 20, 21], 0, [], [], [])), (14, (some [9, 10, 13, 15, 17, 21, 23], 0, [], [], [])), (15, (some [9, 10, 13, 15, 17, 23, 108], 0, [], [], [])), (16, (some [9, 10, 13, 15, 17, 23], 0, [], [], [])), (17, (some [9, 10, 13, 15, 17, 23, 25], 6, [], [(0, 0), (1, 0), (2, 0), (3, 0), (4, 0), (5, 0)], [])), (18, (some [9, 10, 13, 15, 17, 23, 131], 0, [], [], [])), (19, (some [8], 0, [], [], [])), (20, (some [9, 10, 13, 15, 17, 143], 0, [], [], [])), (21, (some [8], 0, [], [], [])), (22, (some [8], 0, [], [], []))]
theorem ok : compF Try.prog Try.f11 ann = some (145, c, [(8, none)]) := by kernel_rfl
def p1 (S : St) : Prop := ops C r22 (kq [8] R) S
def p3 (S : St) : Prop := ops C r11 (kq [9, 10, 13, 15, 17] L1) S
def p5 (S : St) : Prop := ops C r21 (kq [8] R) S
def p4 (S : St) : Prop := condX (S.ev (.tmp 143)) (p5 C R) (p3 C L1) S
def p6 (S : St) : Prop := ops C r20 (kq [9, 10, 13, 15, 17, 143] (p4 C R L1)) S
def p8 (S : St) : Prop := ops C r19 (kq [8] R) S
def p7 (S : St) : Prop := condX (S.ev (.tmp 131)) (p8 C R) (p6 C R L1) S
def p9 (S : St) : Prop := ops C r18 (kq [9, 10, 13, 15, 17, 23, 131] (p7 C R L1)) S
def p10 (S : St) : Prop := ops C r17 (ops C t17 (kq [9, 10, 13, 15, 17, 23, 25] (p9 C R L1))) S
def p12 (S : St) : Prop := ops C r16 (kq [9, 10, 13, 15, 17, 23] (p10 C R L1)) S
def p11 (S : St) : Prop := condX (S.ev (.tmp 108)) (p12 C R L1) (p10 C R L1) S
def p13 (S : St) : Prop := ops C r15 (kq [9, 10, 13, 15, 17, 23, 108] (p11 C R L1)) S
def p14 (S : St) : Prop := ops C r14 (kq [9, 10, 13, 15, 17, 21, 23] (p13 C R L1)) S
def p15 (S : St) : Prop := ops C r13 (kq [9, 10, 13, 15, 17, 20, 21] (p14 C R L1)) S
def p16 (S : St) : Prop := ops C r12 (ops C t12 (kq [9, 10, 13, 15, 17, 18] (p15 C R L1))) S
def p17 (S : St) : Prop := condX (S.ev (.tmp 82)) (p16 C R L1) (p1 C R) S
def p18 (S : St) : Prop := ops C r10 (kq [9, 10, 13, 15, 17, 82] (p17 C R L1)) S
def p2 (S : St) : Prop := LX C (fun L1 => (p18 C R L1)) S
theorem p2_l (S : St) : p2 C R S = LX C (fun L1 => (p18 C R L1)) S := rfl
def p19 (S : St) : Prop := ops C r9 (kq [9, 10, 13, 15, 17] (p2 C R)) S
def p21 (S : St) : Prop := ops C r8 (kq [8] R) S
def p20 (S : St) : Prop := condX (S.ev (.tmp 79)) (p21 C R) (p19 C R) S
def p22 (S : St) : Prop := ops C r7 (kq [9, 10, 13, 15, 79] (p20 C R)) S
def p23 (S : St) : Prop := ops C r6 (kq [9, 10, 12, 13, 14, 15, 16] (p22 C R)) S
def p24 (S : St) : Prop := ops C r5 (kq [9, 10, 11, 12, 13, 14] (p23 C R)) S
def p25 (S : St) : Prop := ops C r4 (kq [9, 10, 11, 12] (p24 C R)) S
def p27 (S : St) : Prop := ops C r3 (kq [9, 10] (p25 C R)) S
def p26 (S : St) : Prop := condX (S.ev (.tmp 41)) (p27 C R) (p25 C R) S
def p28 (S : St) : Prop := ops C r2 (kq [9, 10, 41] (p26 C R)) S
def p29 (S : St) : Prop := ops C r1 (kq [9, 10] (p28 C R)) S
def p30 (S : St) : Prop := ops C r0 (kq [0, 1, 2, 3] (p29 C R)) S
theorem s (S : St) : X C c (retK R) S = p30 C R S := by kernel_rfl
theorem E1 : type_of% @r22.eq_1 ∧ type_of% @p1.eq_1 ∧ type_of% @r11.eq_1 ∧ type_of% @p3.eq_1 ∧ type_of% @r21.eq_1 ∧ type_of% @p5.eq_1 ∧ type_of% @p4.eq_1 ∧ type_of% @r20.eq_1 ∧ type_of% @p6.eq_1 ∧ type_of% @r19.eq_1 ∧ type_of% @p8.eq_1 ∧ type_of% @p7.eq_1 ∧ type_of% @r18.eq_1 ∧ type_of% @p9.eq_1 ∧ type_of% @r17.eq_1 ∧ type_of% @t17.eq_1 ∧ type_of% @p10.eq_1 ∧ type_of% @r16.eq_1 ∧ type_of% @p12.eq_1 ∧ type_of% @p11.eq_1 ∧ type_of% @r15.eq_1 ∧ type_of% @p13.eq_1 ∧ type_of% @r14.eq_1 ∧ type_of% @p14.eq_1 ∧ type_of% @r13.eq_1 ∧ type_of% @p15.eq_1 ∧ type_of% @r12.eq_1 ∧ type_of% @t12.eq_1 ∧ type_of% @p16.eq_1 ∧ type_of% @p17.eq_1 ∧ type_of% @r10.eq_1 ∧ type_of% @p18.eq_1 ∧ type_of% @r9.eq_1 ∧ type_of% @p19.eq_1 ∧ type_of% @r8.eq_1 ∧ type_of% @p21.eq_1 ∧ type_of% @p20.eq_1 ∧ type_of% @r7.eq_1 ∧ type_of% @p22.eq_1 ∧ type_of% @r6.eq_1 := ⟨@r22.eq_1, @p1.eq_1, @r11.eq_1, @p3.eq_1, @r21.eq_1, @p5.eq_1, @p4.eq_1, @r20.eq_1, @p6.eq_1, @r19.eq_1, @p8.eq_1, @p7.eq_1, @r18.eq_1, @p9.eq_1, @r17.eq_1, @t17.eq_1, @p10.eq_1, @r16.eq_1, @p12.eq_1, @p11.eq_1, @r15.eq_1, @p13.eq_1, @r14.eq_1, @p14.eq_1, @r13.eq_1, @p15.eq_1, @r12.eq_1, @t12.eq_1, @p16.eq_1, @p17.eq_1, @r10.eq_1, @p18.eq_1, @r9.eq_1, @p19.eq_1, @r8.eq_1, @p21.eq_1, @p20.eq_1, @r7.eq_1, @p22.eq_1, @r6.eq_1⟩
theorem E2 : type_of% @p23.eq_1 ∧ type_of% @r5.eq_1 ∧ type_of% @p24.eq_1 ∧ type_of% @r4.eq_1 ∧ type_of% @p25.eq_1 ∧ type_of% @r3.eq_1 ∧ type_of% @p27.eq_1 ∧ type_of% @p26.eq_1 ∧ type_of% @r2.eq_1 ∧ type_of% @p28.eq_1 ∧ type_of% @r1.eq_1 ∧ type_of% @p29.eq_1 ∧ type_of% @r0.eq_1 ∧ type_of% @p30.eq_1 ∧ type_of% @s := ⟨@p23.eq_1, @r5.eq_1, @p24.eq_1, @r4.eq_1, @p25.eq_1, @r3.eq_1, @p27.eq_1, @p26.eq_1, @r2.eq_1, @p28.eq_1, @r1.eq_1, @p29.eq_1, @r0.eq_1, @p30.eq_1, @s⟩
theorem E : type_of% @E1 ∧ type_of% @E2 := ⟨@E1, @E2⟩
end w04_SimplestLeast
end Go.Proofs.Ytlanoclibdhpmaa
