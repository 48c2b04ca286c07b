/- MADE BY PROGRAM (sxgen.py): the small code of some functions, points of it and their equations. -/
import Derived.Test.YtncmmbacoknefaaProg
import Derived.Test.YtncmmbacoknefaaCo2
namespace Go.Proofs.Ytncmmbacoknefaa
open Go Go.RowKit Sx
set_option linter.unusedVariables false
variable (C : Cx) (R L1 L2 L3 L4 : St → Prop)

/-! ### tscodec/tscodeclaw13.ConeFits -/
namespace w13_ConeFits
def r0 : List G := [(some 2, none, (.mv (.const (.bool false))))]
def r1 : List G := [(some 22, none, (.mv (.tmp 0))), (some 23, none, (.call false 16 [(.tmp 22)])), (some 3, none, (.mv (.tmp 23)))]
def r2 : List G := [(some 24, none, (.mv (.tmp 3))), (some 25, none, (.call false 32 [(.tmp 24)])), (some 26, none, (.mv (.tmp 3))), (some 27, none, (.call false 32 [(.tmp 26)])), (some 28, none, (.mv (.tmp 3))), (some 29, none, (.call false 17 [(.tmp 28)])), (some 30, none, (.mv (.tmp 3))), (some 31, none, (.call false 30 [(.tmp 30)])), (some 32, none, (.mv (.tmp 3))), (some 33, none, (.call false 31 [(.tmp 32), (.const (.int .i64 63))])), (some 34, none, (.bin .add (.const (.int .i64 1)) (.tmp 33))), (some 35, none, (.cv .u64 (.tmp 34))), (some 36, none, (.bin .shr (.tmp 31) (.tmp 35))), (some 37, none, (.bin .add (.const (.int .u64 1)) (.tmp 36))), (some 4, none, (.mv (.tmp 25))), (some 5, none, (.mv (.tmp 27))), (some 6, none, (.mv (.tmp 29))), (some 7, none, (.mv (.tmp 37)))]
def r3 : List G := [(some 39, none, (.mv (.tmp 4))), (some 40, none, (.call false 20 [(.tmp 39)])), (some 41, none, (.mv (.tmp 5))), (some 42, none, (.mv (.tmp 6))), (some 43, none, (.mv (.tmp 7))), (some 44, none, (.call false 55 [(.tmp 40), (.tmp 41), (.tmp 42), (.tmp 43)])), (some 38, none, (.mv (.tmp 44))), (some 45, none, (.ex (.tmp 38) 0)), (some 46, none, (.ex (.tmp 38) 1)), (some 8, none, (.new [(.bool false), (.bool false), (.int .u64 0), (.int .u64 0), (.int .u64 0), (.int .u64 0), (.bool false), (.int .u64 0), (.int .u64 0), (.int .u64 0), (.int .u64 0), (.bool false), (.int .u64 0), (.int .u64 0), (.int .u64 0), (.int .u64 0), (.bool false), (.int .u64 0), (.int .u64 0), (.int .u64 0), (.int .u64 0)])), (none, none, (.st true 21 (.tmp 8) (.tmp 45))), (some 9, none, (.mv (.tmp 46)))]
def r4 : List G := [(some 47, none, (.mv (.tmp 9))), (some 48, none, (.un .not (.tmp 47)))]
def r5 : List G := [(some 2, none, (.mv (.const (.bool false))))]
def r6 : List G := [(some 49, none, (.fa 1 (.tmp 8))), (some 50, none, (.ld true 10 (.tmp 49))), (some 51, none, (.fa 11 (.tmp 8))), (some 52, none, (.ld true 10 (.tmp 51))), (some 53, none, (.ld true 21 (.tmp 8))), (some 54, none, (.call true 56 [(.tmp 53)])), (some 55, none, (.mv (.tmp 3))), (some 56, none, (.call false 29 [(.tmp 55)])), (some 57, none, (.gen false (.bsl 88 4 [0, 1, 2, 3]) [(.tmp 50), (.tmp 52), (.tmp 54), (.tmp 56)]))]
def t6 : List G := [(some 10, none, (.mv (.tmp 57)))]
def r7 : List G := [(some 11, none, (.mv (.const (.int .i64 0))))]
def r8 : List G := [(some 58, none, (.mv (.tmp 11))), (some 59, none, (.mv (.tmp 10))), (some 60, none, (.len false (.tmp 59))), (some 61, none, (.bin .lss (.tmp 58) (.tmp 60)))]
def r10 : List G := [(some 64, none, (.mv (.tmp 10))), (some 65, none, (.mv (.tmp 11))), (some 66, none, (.is 10 (.tmp 64) (.tmp 65))), (some 67, none, (.ld true 10 (.tmp 66))), (some 12, none, (.new zR)), (none, none, (.st true 10 (.tmp 12) (.tmp 67)))]
def r11 : List G := [(some 69, none, (.fa 0 (.tmp 12))), (some 70, none, (.ld true 5 (.tmp 69))), (some 71, none, (.mv (.tmp 7))), (some 72, none, (.call true 58 [(.tmp 71)])), (some 73, none, (.call true 57 [(.tmp 70), (.tmp 72)])), (some 68, none, (.mv (.tmp 73))), (some 74, none, (.ex (.tmp 68) 0)), (some 75, none, (.ex (.tmp 68) 1))]
def t11 : List G := [(some 13, none, (.new zW)), (none, none, (.st true 5 (.tmp 13) (.tmp 74))), (some 14, none, (.mv (.tmp 75)))]
def r12 : List G := [(some 77, none, (.mv (.tmp 5))), (some 78, none, (.call false 20 [(.tmp 77)])), (some 79, none, (.mv (.tmp 4))), (some 80, none, (.call false 20 [(.tmp 79)])), (some 81, none, (.call false 41 [(.tmp 78), (.tmp 80)])), (some 76, none, (.mv (.tmp 81))), (some 82, none, (.ex (.tmp 76) 0)), (some 83, none, (.ex (.tmp 76) 1)), (some 15, none, (.new zW)), (none, none, (.st true 5 (.tmp 15) (.tmp 82))), (some 16, none, (.mv (.tmp 83)))]
def r13 : List G := [(some 85, none, (.ld true 5 (.tmp 15))), (some 86, none, (.fa 5 (.tmp 12))), (some 87, none, (.ld true 5 (.tmp 86))), (some 88, none, (.call false 57 [(.tmp 85), (.tmp 87)])), (some 84, none, (.mv (.tmp 88))), (some 89, none, (.ex (.tmp 84) 0)), (some 90, none, (.ex (.tmp 84) 1)), (none, none, (.st true 5 (.tmp 15) (.tmp 89)))]
def r14 : List G := [(some 92, none, (.ld true 5 (.tmp 13))), (some 93, none, (.ld true 5 (.tmp 15))), (some 94, none, (.call false 41 [(.tmp 92), (.tmp 93)])), (some 91, none, (.mv (.tmp 94))), (some 95, none, (.ex (.tmp 91) 0)), (some 96, none, (.ex (.tmp 91) 1)), (none, none, (.st true 5 (.tmp 13) (.tmp 95)))]
def r15 : List G := [(some 97, none, (.fa 0 (.tmp 13))), (none, none, (.st false 1 (.tmp 97) (.const (.bool false))))]
def r16 : List G := [(some 99, none, (.mv (.tmp 6))), (some 100, none, (.call true 20 [(.tmp 99)])), (some 101, none, (.fa 5 (.tmp 12))), (some 102, none, (.ld true 5 (.tmp 101))), (some 103, none, (.call true 57 [(.tmp 100), (.tmp 102)])), (some 98, none, (.mv (.tmp 103))), (some 104, none, (.ex (.tmp 98) 0)), (some 105, none, (.ex (.tmp 98) 1))]
def t16 : List G := [(some 17, none, (.new zW)), (none, none, (.st true 5 (.tmp 17) (.tmp 104))), (some 18, none, (.mv (.tmp 105)))]
def r17 : List G := [(some 106, none, (.ld true 5 (.tmp 13))), (some 107, none, (.ld true 5 (.tmp 17))), (some 108, none, (.call false 42 [(.tmp 106), (.tmp 107)])), (some 109, none, (.bin .leq (.tmp 108) (.const (.int .i64 0)))), (some 19, none, (.mv (.tmp 109)))]
def r18 : List G := [(some 110, none, (.ld true 21 (.tmp 8))), (some 111, none, (.ld true 10 (.tmp 12))), (some 112, none, (.call false 59 [(.tmp 110), (.tmp 111)])), (some 113, none, (.mv (.tmp 19))), (some 114, none, (.bq true (.tmp 112) (.tmp 113)))]
def r19 : List G := [(some 2, none, (.mv (.const (.bool false))))]
def r20 : List G := [(some 116, none, (.mv (.tmp 4))), (some 117, none, (.call true 20 [(.tmp 116)])), (some 118, none, (.ld true 10 (.tmp 12))), (some 119, none, (.mv (.tmp 7))), (some 120, none, (.call true 40 [(.tmp 118), (.tmp 119)])), (some 121, none, (.call true 22 [(.tmp 117), (.tmp 120)])), (some 115, none, (.mv (.tmp 121))), (some 122, none, (.ex (.tmp 115) 0)), (some 123, none, (.ex (.tmp 115) 1))]
def t20 : List G := [(some 20, none, (.new zW)), (none, none, (.st true 5 (.tmp 20) (.tmp 122))), (some 21, none, (.mv (.tmp 123)))]
def r21 : List G := [(some 125, none, (.ld true 5 (.tmp 20))), (some 126, none, (.mv (.tmp 5))), (some 127, none, (.call true 20 [(.tmp 126)])), (some 128, none, (.call true 41 [(.tmp 125), (.tmp 127)])), (some 124, none, (.mv (.tmp 128))), (some 129, none, (.ex (.tmp 124) 0)), (some 130, none, (.ex (.tmp 124) 1))]
def t21 : List G := [(none, none, (.st true 5 (.tmp 20) (.tmp 129)))]
def r22 : List G := [(some 131, none, (.fa 0 (.tmp 20))), (none, none, (.st false 1 (.tmp 131) (.const (.bool false))))]
def r23 : List G := [(some 132, none, (.mv (.tmp 19))), (some 133, none, (.mv (.tmp 132))), (some 134, some (133, true), (.ld true 5 (.tmp 20))), (some 135, some (133, true), (.mv (.tmp 6))), (some 136, some (133, true), (.call true 20 [(.tmp 135)])), (some 137, some (133, true), (.call true 42 [(.tmp 134), (.tmp 136)])), (some 138, some (133, true), (.bin .gtr (.tmp 137) (.const (.int .i64 0)))), (some 139, none, (.pick (.tmp 133) (.tmp 138) (.const (.bool false))))]
def t23 : List G := []
def r24 : List G := [(some 2, none, (.mv (.const (.bool false))))]
def r9 : List G := [(some 62, none, (.mv (.tmp 11))), (some 63, none, (.bin .add (.tmp 62) (.const (.int .i64 1)))), (some 11, none, (.mv (.tmp 63)))]
def r25 : List G := [(some 140, none, (.call false 48 [])), (some 2, none, (.mv (.tmp 140)))]
def c : MC := (.seq (.reg r0 (some [0])) (.seq (.reg r1 (some [3])) (.seq (.reg r2 (some [3, 4, 5, 6, 7])) (.seq (.reg r3 (some [3, 4, 5, 6, 7, 8, 9])) (.seq (.seq (.reg r4 (some [3, 4, 5, 6, 7, 8, 48])) (.cond (.tmp 48) (.seq (.reg r5 (some [2])) .ret) .skip)) (.seq (.creg false false r6 t6 (some [4, 5, 6, 7, 8, 10])) (.seq (.seq (.reg r7 (some [4, 5, 6, 7, 8, 10, 11])) (.block 0 (.loop (.seq (.seq (.reg r8 (some [4, 5, 6, 7, 8, 10, 11, 61])) (.cond (.tmp 61) .skip (.exit 0))) (.seq (.block 1 (.seq (.reg r10 (some [4, 5, 6, 7, 8, 10, 11, 12])) (.seq (.dreg r11 t11 (some [4, 5, 6, 7, 8, 10, 11, 12, 13])) (.seq (.reg r12 (some [4, 5, 6, 7, 8, 10, 11, 12, 13, 15])) (.seq (.reg r13 (some [4, 5, 6, 7, 8, 10, 11, 12, 13, 15])) (.seq (.reg r14 (some [4, 5, 6, 7, 8, 10, 11, 12, 13])) (.seq (.reg r15 (some [4, 5, 6, 7, 8, 10, 11, 12, 13])) (.seq (.dreg r16 t16 (some [4, 5, 6, 7, 8, 10, 11, 12, 13, 17])) (.seq (.reg r17 (some [4, 5, 6, 7, 8, 10, 11, 12, 19])) (.seq (.seq (.reg r18 (some [4, 5, 6, 7, 8, 10, 11, 12, 19, 114])) (.cond (.tmp 114) (.seq (.reg r19 (some [2])) .ret) .skip)) (.seq (.dreg r20 t20 (some [4, 5, 6, 7, 8, 10, 11, 19, 20])) (.seq (.dreg r21 t21 (some [4, 5, 6, 7, 8, 10, 11, 19, 20])) (.seq (.reg r22 (some [4, 5, 6, 7, 8, 10, 11, 19, 20])) (.seq (.dreg r23 t23 (some [4, 5, 6, 7, 8, 10, 11, 139])) (.cond (.tmp 139) (.seq (.reg r24 (some [2])) .ret) .skip))))))))))))))) (.reg r9 (some [4, 5, 6, 7, 8, 10, 11]))))))) (.seq (.reg r25 (some [2])) .ret))))))))
def ann : Ann := [(0, (some [0], 0, [], [], [])), (1, (some [3], 0, [], [], [])), (2, (some [3, 4, 5, 6, 7], 0, [], [], [])), (3, (some [3, 4, 5, 6, 7, 8, 9], 0, [], [], [])), (4, (some [3, 4, 5, 6, 7, 8, 48], 0, [], [], [])), (5, (some [2], 0, [], [], [])), (6, (some [4, 5, 6, 7, 8, 10], 300009, [], [(0, 0), (1, 0), (2, 0), (3, 0), (4, 0), (5, 0), (6, 0), (7, 1), (8, 1)], [])), (7, (some [4, 5, 6, 7, 8, 10, 11], 0, [], [], [])), (8, (some [4, 5, 6, 7, 8, 10, 11, 61], 0, [], [], [])), (9, (some [4, 5, 6, 7, 8, 10, 11], 0, [], [], [])), (10, (some [4, 5, 6, 7, 8, 10, 11, 12], 0, [], [], [])), (11, (some [4, 5, 6, 7, 8, 10, 11, 12, 13], 9, [7], [(0, 0), (1, 0), (2, 0), (3, 0), (4, 0), (5, 0), (6, 0), (7, 2)], [8])), (12, (some [4, 5, 6, 7, 8, 10, 11, 12, 13, 15], 0, [], [], [])), (13, (some [4, 5, 6, 7, 8, 10, 11, 12, 13, 15], 0, [], [], [])), (14, (some [4, 5, 6, 7, 8, 10, 11, 12, 13], 0, [], [], [])), (15, (some [4, 5, 6, 7, 8, 10, 11, 12, 13], 0, [], [], [])), (16, (some [4, 5, 6, 7, 8, 10, 11, 12, 13, 17], 9, [7], [(0, 0), (1, 0), (2, 0), (3, 0), (4, 0), (5, 0), (6, 0), (7, 2)], [8])), (17, (some [4, 5, 6, 7, 8, 10, 11, 12, 19], 0, [], [], [])), (18, (some [4, 5, 6, 7, 8, 10, 11, 12, 19, 114], 0, [], [], [])), (19, (some [2], 0, [], [], [])), (20, (some [4, 5, 6, 7, 8, 10, 11, 19, 20], 10, [8], [(0, 0), (1, 0), (2, 0), (3, 0), (4, 0), (5, 0), (6, 0), (7, 0), (8, 2)], [9])), (21, (some [4, 5, 6, 7, 8, 10, 11, 19, 20], 7, [6], [(0, 0), (1, 0), (2, 0), (3, 0), (4, 0), (5, 0), (6, 2)], [])), (22, (some [4, 5, 6, 7, 8, 10, 11, 19, 20], 0, [], [], [])), (23, (some [4, 5, 6, 7, 8, 10, 11, 139], 8, [], [(0, 0), (1, 0), (2, 0), (3, 0), (4, 0), (5, 0), (6, 0), (7, 0)], [])), (24, (some [2], 0, [], [], [])), (25, (some [2], 0, [], [], []))]
theorem ok : compF Try.prog Try.f12 ann = some (141, c, [(2, none)]) := by kernel_rfl
def p1 (S : St) : Prop := ops C r25 (kq [2] R) S
def p3 (S : St) : Prop := ops C r9 (kq [4, 5, 6, 7, 8, 10, 11] L1) S
def p5 (S : St) : Prop := ops C r24 (kq [2] R) S
def p4 (S : St) : Prop := condX (S.ev (.tmp 139)) (p5 C R) (p3 C L1) S
def p6 (S : St) : Prop := ops C r23 (ops C t23 (kq [4, 5, 6, 7, 8, 10, 11, 139] (p4 C R L1))) S
def p7 (S : St) : Prop := ops C r22 (kq [4, 5, 6, 7, 8, 10, 11, 19, 20] (p6 C R L1)) S
def p8 (S : St) : Prop := ops C r21 (ops C t21 (kq [4, 5, 6, 7, 8, 10, 11, 19, 20] (p7 C R L1))) S
def p9 (S : St) : Prop := ops C r20 (ops C t20 (kq [4, 5, 6, 7, 8, 10, 11, 19, 20] (p8 C R L1))) S
def p11 (S : St) : Prop := ops C r19 (kq [2] R) S
def p10 (S : St) : Prop := condX (S.ev (.tmp 114)) (p11 C R) (p9 C R L1) S
def p12 (S : St) : Prop := ops C r18 (kq [4, 5, 6, 7, 8, 10, 11, 12, 19, 114] (p10 C R L1)) S
def p13 (S : St) : Prop := ops C r17 (kq [4, 5, 6, 7, 8, 10, 11, 12, 19] (p12 C R L1)) S
def p14 (S : St) : Prop := ops C r16 (ops C t16 (kq [4, 5, 6, 7, 8, 10, 11, 12, 13, 17] (p13 C R L1))) S
def p15 (S : St) : Prop := ops C r15 (kq [4, 5, 6, 7, 8, 10, 11, 12, 13] (p14 C R L1)) S
def p16 (S : St) : Prop := ops C r14 (kq [4, 5, 6, 7, 8, 10, 11, 12, 13] (p15 C R L1)) S
def p17 (S : St) : Prop := ops C r13 (kq [4, 5, 6, 7, 8, 10, 11, 12, 13, 15] (p16 C R L1)) S
def p18 (S : St) : Prop := ops C r12 (kq [4, 5, 6, 7, 8, 10, 11, 12, 13, 15] (p17 C R L1)) S
def p19 (S : St) : Prop := ops C r11 (ops C t11 (kq [4, 5, 6, 7, 8, 10, 11, 12, 13] (p18 C R L1))) S
def p20 (S : St) : Prop := ops C r10 (kq [4, 5, 6, 7, 8, 10, 11, 12] (p19 C R L1)) S
def p21 (S : St) : Prop := condX (S.ev (.tmp 61)) (p20 C R L1) (p1 C R) S
def p22 (S : St) : Prop := ops C r8 (kq [4, 5, 6, 7, 8, 10, 11, 61] (p21 C R L1)) S
def p2 (S : St) : Prop := LX C (fun L1 => (p22 C R L1)) S
theorem p2_l (S : St) : p2 C R S = LX C (fun L1 => (p22 C R L1)) S := rfl
def p23 (S : St) : Prop := ops C r7 (kq [4, 5, 6, 7, 8, 10, 11] (p2 C R)) S
def p24 (S : St) : Prop := cregX C false false r6 t6 (kq [4, 5, 6, 7, 8, 10] (p23 C R)) S
def p26 (S : St) : Prop := ops C r5 (kq [2] R) S
def p25 (S : St) : Prop := condX (S.ev (.tmp 48)) (p26 C R) (p24 C R) S
def p27 (S : St) : Prop := ops C r4 (kq [3, 4, 5, 6, 7, 8, 48] (p25 C R)) S
def p28 (S : St) : Prop := ops C r3 (kq [3, 4, 5, 6, 7, 8, 9] (p27 C R)) S
def p29 (S : St) : Prop := ops C r2 (kq [3, 4, 5, 6, 7] (p28 C R)) S
def p30 (S : St) : Prop := ops C r1 (kq [3] (p29 C R)) S
def p31 (S : St) : Prop := ops C r0 (kq [0] (p30 C R)) S
theorem s (S : St) : X C c (retK R) S = p31 C R S := by kernel_rfl
theorem E1 : type_of% @r25.eq_1 ∧ type_of% @p1.eq_1 ∧ type_of% @r9.eq_1 ∧ type_of% @p3.eq_1 ∧ type_of% @r24.eq_1 ∧ type_of% @p5.eq_1 ∧ type_of% @p4.eq_1 ∧ type_of% @r23.eq_1 ∧ type_of% @t23.eq_1 ∧ type_of% @p6.eq_1 ∧ type_of% @r22.eq_1 ∧ type_of% @p7.eq_1 ∧ type_of% @r21.eq_1 ∧ type_of% @t21.eq_1 ∧ type_of% @p8.eq_1 ∧ type_of% @r20.eq_1 ∧ type_of% @t20.eq_1 ∧ type_of% @p9.eq_1 ∧ type_of% @r19.eq_1 ∧ type_of% @p11.eq_1 ∧ type_of% @p10.eq_1 ∧ type_of% @r18.eq_1 ∧ type_of% @p12.eq_1 ∧ type_of% @r17.eq_1 ∧ type_of% @p13.eq_1 ∧ type_of% @r16.eq_1 ∧ type_of% @t16.eq_1 ∧ type_of% @p14.eq_1 ∧ type_of% @r15.eq_1 ∧ type_of% @p15.eq_1 ∧ type_of% @r14.eq_1 ∧ type_of% @p16.eq_1 ∧ type_of% @r13.eq_1 ∧ type_of% @p17.eq_1 ∧ type_of% @r12.eq_1 ∧ type_of% @p18.eq_1 ∧ type_of% @r11.eq_1 ∧ type_of% @t11.eq_1 ∧ type_of% @p19.eq_1 ∧ type_of% @r10.eq_1 := ⟨@r25.eq_1, @p1.eq_1, @r9.eq_1, @p3.eq_1, @r24.eq_1, @p5.eq_1, @p4.eq_1, @r23.eq_1, @t23.eq_1, @p6.eq_1, @r22.eq_1, @p7.eq_1, @r21.eq_1, @t21.eq_1, @p8.eq_1, @r20.eq_1, @t20.eq_1, @p9.eq_1, @r19.eq_1, @p11.eq_1, @p10.eq_1, @r18.eq_1, @p12.eq_1, @r17.eq_1, @p13.eq_1, @r16.eq_1, @t16.eq_1, @p14.eq_1, @r15.eq_1, @p15.eq_1, @r14.eq_1, @p16.eq_1, @r13.eq_1, @p17.eq_1, @r12.eq_1, @p18.eq_1, @r11.eq_1, @t11.eq_1, @p19.eq_1, @r10.eq_1⟩
theorem E2 : type_of% @p20.eq_1 ∧ type_of% @p21.eq_1 ∧ type_of% @r8.eq_1 ∧ type_of% @p22.eq_1 ∧ type_of% @r7.eq_1 ∧ type_of% @p23.eq_1 ∧ type_of% @r6.eq_1 ∧ type_of% @t6.eq_1 ∧ type_of% @p24.eq_1 ∧ type_of% @r5.eq_1 ∧ type_of% @p26.eq_1 ∧ type_of% @p25.eq_1 ∧ type_of% @r4.eq_1 ∧ type_of% @p27.eq_1 ∧ type_of% @r3.eq_1 ∧ type_of% @p28.eq_1 ∧ type_of% @r2.eq_1 ∧ type_of% @p29.eq_1 ∧ type_of% @r1.eq_1 ∧ type_of% @p30.eq_1 ∧ type_of% @r0.eq_1 ∧ type_of% @p31.eq_1 ∧ type_of% @s := ⟨@p20.eq_1, @p21.eq_1, @r8.eq_1, @p22.eq_1, @r7.eq_1, @p23.eq_1, @r6.eq_1, @t6.eq_1, @p24.eq_1, @r5.eq_1, @p26.eq_1, @p25.eq_1, @r4.eq_1, @p27.eq_1, @r3.eq_1, @p28.eq_1, @r2.eq_1, @p29.eq_1, @r1.eq_1, @p30.eq_1, @r0.eq_1, @p31.eq_1, @s⟩
theorem E : type_of% @E1 ∧ type_of% @E2 := ⟨@E1, @E2⟩
end w13_ConeFits
end Go.Proofs.Ytncmmbacoknefaa
